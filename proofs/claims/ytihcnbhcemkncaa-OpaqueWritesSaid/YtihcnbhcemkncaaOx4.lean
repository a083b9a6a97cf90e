-- PRINTED by print.py (a twelfth state) out of the translation. Not trusted: Lean checks it.
import Derived.Test.YtihcnbhcemkncaaOx0
import Derived.Test.YtihcnbhcemkncaaOx2
import Derived.Test.YtihcnbhcemkncaaOx3
namespace Go.Proofs.Ytihcnbhcemkncaa.O
open Go.Proofs.Ytihcnbhcemkncaa.Ho
open Go.RowKit Go.Proofs.YtihcnbhcemkncaaW.PrintWords Go.Proofs.YtihcnbhcemkncaaW.PrintLast Go.Proofs.YtihcnbhcemkncaaW.PrintMore
attribute [local go_sem] max2_int min2_int max_two min_two max_three min_three max_four min_four   -- for this text's walks alone
set_option linter.unusedVariables false
set_option linter.unusedSimpArgs false

/-! ### heap_there: function 56 -/
def heap_there.f (l0 : List (S66)) (a1 : Int) : Option (Bool) := if a1 ≥ 0 then (if a1 < (l0.length : Int) then (if 0 ≤ a1 then (some ((rd_T66 l0 a1).f0)) else (none)) else (some false)) else (some false)
set_option maxHeartbeats 8000000 in
set_option maxRecDepth 100000 in
theorem heap_there.calls (A0 : Option Addr) (c0 : Nat) (l0 : List (S66)) (a1 : Int) (r : Bool) (w : World) (hr0 : Kd.C k66 w A0 l0.length l0) (hc0 : l0.length ≤ c0) (h : heap_there.f l0 a1 = some r) :
 Calls Try.prog 56 #[.slice A0 l0.length c0, .int .i64 a1] w fun e w' => e = .returned (.bool r) ∧ Drawn0 w w' := by
 have HR0 := Aside0.mk hr0
 have HC0 := Aside0.mk hc0
 clear hr0 hc0
 have H : (if a1 ≥ 0 then (if a1 < (l0.length : Int) then (if 0 ≤ a1 then (some ((rd_T66 l0 a1).f0)) else (none)) else (some false)) else (some false)) = some r := h
 clear h
 by_cases c3 : a1 ≥ 0
 · rw [if_pos c3] at H
   have c3b0 : decide (0 ≤ a1) = true := decide_eq_true c3
   clear c3
   by_cases c4 : a1 < (l0.length : Int)
   · rw [if_pos c4] at H
     have c4b0 : decide (a1 < (l0.length : Int)) = true := decide_eq_true c4
     clear c4
     by_cases c5 : 0 ≤ a1
     · rw [if_pos c5] at H
       have c5b0 : decide (0 ≤ a1) = true := decide_eq_true c5
       clear c5
       obtain rfl := Option.some.inj H
       have p121 : 0 ≤ (a1 : Int) := of_decide_eq_true (by first | (with_reducible assumption) | assumption)
       have q121 : a1 < (l0.length : Int) := of_decide_eq_true (by first | (with_reducible assumption) | assumption)
       obtain ⟨ad121, e121, hx121_0, hx121_1⟩ := at_T66 HR0.out a1 p121 q121
       cases e121
       replace p121 := eq_true p121
       replace q121 := eq_true q121
       go_enter Try.func56, Try.ntmps56
       go_wp2
       go_ret
       exact ⟨by first | rfl | (simp; done) | (simp [*]; done), by repeat (first | exact Drawn0.refl _ | apply Drawn0.step)⟩
     · rw [if_neg c5] at H
       exact absurd H (by simp)
   · rw [if_neg c4] at H
     have c4b0 : decide (a1 < (l0.length : Int)) = false := decide_eq_false c4
     clear c4
     obtain rfl := Option.some.inj H
     go_enter Try.func56, Try.ntmps56
     go_wp2
     go_ret
     exact ⟨by first | rfl | (simp; done) | (simp [*]; done), by repeat (first | exact Drawn0.refl _ | apply Drawn0.step)⟩
 · rw [if_neg c3] at H
   have c3b0 : decide (0 ≤ a1) = false := decide_eq_false c3
   clear c3
   obtain rfl := Option.some.inj H
   go_enter Try.func56, Try.ntmps56
   go_wp2
   go_ret
   exact ⟨by first | rfl | (simp; done) | (simp [*]; done), by repeat (first | exact Drawn0.refl _ | apply Drawn0.step)⟩

/-! ### slices_Clone_76: function 76 -/
def slices_Clone_76.f (l0 : List (S66)) : Option ((List (S66))) := (some (([] : List (S66)) : List (S66))).bind fun y122 => (if y122.length + l0.length < 8796093022208 then (some (y122 ++ l0)) else (none))
set_option maxHeartbeats 8000000 in
set_option maxRecDepth 100000 in
theorem slices_Clone_76.callsN (A0 : Option Addr) (c0 : Nat) (l0 : List (S66)) (r : List (S66)) (w : World) (hr0 : Kd.C k66 w A0 l0.length l0) (hc0 : l0.length ≤ c0) (h : slices_Clone_76.f l0 = some r) (hnn : A0.isNone = false) :
 Calls Try.prog 76 #[.slice A0 l0.length c0] w fun e w' => ∃ v0_ : Value, e = .returned (v0_) ∧ Kd.R k66 66 w' w.heap.size (fun _ => True) v0_ r ∧ Below w.heap.size w w' := by
 have heql : ∀ W : World, (binOp .eql 26 (.slice A0 l0.length c0) (.slice none 0 0)).run Try.prog W = .ok (.bool false) W := fun W => by rw [Lib.run_eql_slice_nil W 26 66 A0 l0.length c0 0 0 Try.underlying26]; rw [hnn]
 clear hnn
 have HR0 := Aside0.mk hr0
 have HC0 := Aside0.mk hc0
 clear hr0 hc0
 have HB := Aside0.mk (Below.refl w.heap.size w)
 have H : ((some (([] : List (S66)) : List (S66))).bind fun y122 => (if y122.length + l0.length < 8796093022208 then (some (y122 ++ l0)) else (none))) = some r := h
 clear h
 obtain ⟨y122, hy122⟩ : ∃ y_ : List (S66), y_ = (([] : List (S66))) := ⟨_, rfl⟩
 replace H : (if y122.length + l0.length < 8796093022208 then (some (y122 ++ l0)) else (none)) = some r := by first | (rw [hy122]; with_reducible exact H) | (have H2_ := (Option.bind_some _ _).symm.trans H; rw [hy122]; with_reducible exact H2_) | (have H2_ := (Option.bind_some _ _).symm.trans H; with_reducible exact H2_) | with_reducible exact H | (rw [hy122]; exact H) | exact H
 have Ny122 := Aside0.mk hy122
 clear hy122
 by_cases c2 : y122.length + l0.length < 8796093022208
 · rw [if_pos c2] at H
   have LMc2 := Aside0.mk c2
   clear c2
   obtain ⟨y125, hy125⟩ : ∃ y_ : List (S66), y_ = (y122 ++ l0) := ⟨_, rfl⟩
   replace H : (some y125) = some r := by first | (rw [hy125]; with_reducible exact H) | (have H2_ := (Option.bind_some _ _).symm.trans H; rw [hy125]; with_reducible exact H2_) | (have H2_ := (Option.bind_some _ _).symm.trans H; with_reducible exact H2_) | with_reducible exact H | (rw [hy125]; exact H) | exact H
   have Ny125 := Aside0.mk hy125
   clear hy125
   obtain rfl := Option.some.inj H
   go_enter Try.func76, Try.ntmps76
   go_wp2_with (first | ((with_reducible refine gate_dst (N := 5) rfl ?_); refine Kd.R_lit k66 _ 66 ?hg (N := 5) ?hd (xs := ([] : List (S66))) (inner := []) (ok := fun _ => True) (okp := fun _ => True) ?hr ?hp (fun _ hk => hk) trivial (Below.refl _ _) (Nat.le_refl _) (by simp) ?_; (case hd => rfl); (case hg => rfl); (case hr => first | (go_simp; done) | (go_simp; rfl)); (case hp => exact (Reps.none _ _)); intro v123 w3 ho4 hb hg_ hnew_; clear hg_ hnew_; (first | rw [← Ny122.out] at ho4 | (simp only [Int.reduceToNat] at ho4; rw [← Ny122.out] at ho4)); have n0_ := Aside0.mk (Kd.R_lower ho4 bsz_); have n1_ := Aside0.mk (bst_ hb); clear HB; have HO124 := n0_; have HB := n1_; clear n0_ n1_; clear hb ho4) | ((with_reducible refine gate_builtin (b := .append) (xs := #[.tmp 5, .tmp 6]) rfl ?_); at_builtin; refine Kd.R_append_rows k66 (w0 := w) w.heap.size rfl (.tmp 5) (.tmp 6) 26 66 (.agg #[(.bool false), (.int .i64 0)]) 16 rfl Try.underlying26 info66 rfl (by decide) (by omega) v123 y122 l0 _ _ _ (fun _ => True) (fun _ => False) rfl rfl ?aO ?aR (fun _ _ h => h) (fun _ h => h.elim) ?aF ?aB ?aS ?aL ?_; (case aR => repeat (first | exact (Kd.C_below HR0.out HB.out) | with_reducible first | refine Kd.C_alloc ?_ _ | refine Kd.C_drewN ?_ _ | refine Kd.C_drew ?_)); (case aB => exact (by repeat (with_reducible first | exact HB.out | apply below_alloc | apply pw_below_drewN | apply below_drew1))); (case aF => exact (fun _ _ => trivial)); (case aO => exact (by (with_reducible repeat (first | apply Kd.R_alloc | apply Kd.R_drewN | apply Kd.R_drew)); exact HO124.out)); (case aS => exact bsz_); (case aL => have := LMc2.out; omega); intro v126 w5 ho hb hg hat; rw [← Ny125.out] at ho; have n0_ := Aside0.mk (hb); have n1_ := Aside0.mk (ho); clear HB; clear HO124; have HB := n0_; have HO127 := n1_; clear n0_ n1_; clear ho hb hg hat))
   go_ret
   exact ⟨_, by first | rfl | (simp [errW_none, errW_some] <;> rfl) | (simp [*, errW_none, errW_some] <;> rfl), by (with_reducible repeat (first | apply Kd.R_alloc | apply Kd.R_drewN | apply Kd.R_drew)); exact HO127.out, by repeat (with_reducible first | exact HB.out | apply below_alloc | apply pw_below_drewN | apply below_drew1)⟩
 · rw [if_neg c2] at H
   exact absurd H (by simp)

set_option maxHeartbeats 2000000 in
theorem slices_Clone_76.calls (A0 : Option Addr) (c0 : Nat) (l0 : List (S66)) (r : List (S66)) (w : World) (hr0 : Kd.C k66 w A0 l0.length l0) (hc0 : l0.length ≤ c0) (h : slices_Clone_76.f l0 = some r) :
 Calls Try.prog 76 #[.slice A0 l0.length c0] w fun e w' => ∃ v0_ : Value, e = .returned (v0_) ∧ Kd.R k66 66 w' w.heap.size (fun _ => True) v0_ r ∧ Below w.heap.size w w' := by
 cases hA : A0 with
 | some ad => subst hA; exact slices_Clone_76.callsN (some ad) c0 l0 r w hr0 hc0 h rfl
 | none =>
  subst hA
  obtain rfl : l0 = [] := by
   rcases Nat.eq_zero_or_pos l0.length with h0 | h0
   · exact List.length_eq_zero_iff.1 h0
   · obtain ⟨ad, c, e0, _⟩ := Kd.C_get hr0 z66 0 (by omega) (by omega)
     cases e0
  obtain rfl : [] = r := by simpa [slices_Clone_76.f] using h
  have heql : ∀ W : World, (binOp .eql 26 (.slice none 0 c0) (.slice none 0 0)).run Try.prog W = .ok (.bool true) W := fun W => by rw [Lib.run_eql_slice_nil W 26 66 none 0 c0 0 0 Try.underlying26]; rfl
  clear hr0 hc0 h
  simp only [List.length_nil]
  go_enter Try.func76, Try.ntmps76
  go_wp2
  go_ret
  exact ⟨_, rfl, by first | exact Kd.R_nil _ _ _ _ _ | exact Kd.N_nil _ _ _ _ _ | exact Kd.V_nil _ _ _ _ _, Below.refl _ _⟩

-- NOT PRINTED: function 89 (slices_IndexFunc_89)

-- NOT PRINTED: function 78 (slices_ContainsFunc_78)

/-! ### heap_Put_1: function 79 -/
def heap_Put_1.f (a0_0 : Int) (a0_1 : Int) : Option (Bool) := (span_Right.f a0_1).bind fun t129 => (some (!t129))
set_option maxHeartbeats 8000000 in
set_option maxRecDepth 100000 in
theorem heap_Put_1.calls (a0_0 : Int) (a0_1 : Int) (r : Bool) (w : World) (h : heap_Put_1.f a0_0 a0_1 = some r) :
 Calls Try.prog 79 #[.agg #[.int .i64 a0_0, .int .i64 a0_1]] w fun e w' => e = .returned (.bool r) ∧ Below w.heap.size w w' := by
 have hu77 := Try.underlying77
 have HB := Aside0.mk (Below.refl w.heap.size w)
 have H : ((span_Right.f a0_1).bind fun t129 => (some (!t129))) = some r := h
 clear h
 replace H := Option.bind_eq_some_iff.mp H
 obtain ⟨t129, A20, H⟩ := H
 replace H : (some (!t129)) = some r := H
 have A2 := Aside0.mk A20
 clear A20
 obtain rfl := Option.some.inj H
 go_enter Try.func79, Try.ntmps79
 go_wp2_with (first | ((with_reducible refine gate_dst (N := 1) rfl ?_); refine box_event ?hg (N := 1) ?hd (cs := #[.int .i64 a0_0, .int .i64 a0_1]) (t := 77) ?hr ?_; (case hd => rfl); (case hg => rfl); (case hr => first | (go_simp; done) | (go_simp; rfl)); intro gb128 hg w3 hbox hb; have n0_ := Aside0.mk (bst_ hb); have n1_ := Aside0.mk (hbox); have n2_ := Aside0.mk ((by rw [hg]; exact bsz_ : w.heap.size ≤ gb128)); have n3_ := n2_; clear HB; have HB := n0_; have BK128 := n1_; have GW128 := n2_; have GE128 := n3_; clear n0_ n1_ n2_ n3_; clear hb hbox hg; have hcz4_0 : w3.cell? ⟨gb128, 0, none⟩ = some (.int .i64 a0_0) := (blk_cell BK128.out 0).trans rfl; have hcz4_1 : w3.cell? ⟨gb128, 1, none⟩ = some (.int .i64 a0_1) := (blk_cell BK128.out 1).trans rfl; have hfz4_0 := blk_frozen BK128.out 0; have hfz4_1 := blk_frozen BK128.out 1) | ((with_reducible refine gate_callee (f := 80) rfl ?_); refine goesL_ (some 5) rfl rfl Try.func80 (by kernel_rfl) rfl #[.int .i64 a0_1] rfl (by (try simp only [List.map_toArray, List.map_cons, List.map_nil]); first | done | rfl) ?_; (with_reducible refine (span_Right.calls a0_1 t129 _ A2.out).mono ?_); rintro e w' ⟨rfl, ⟨nd, rfl⟩⟩; refine ⟨_, rfl, ?_⟩))
 go_ret
 exact ⟨by first | rfl | (simp [errW_none, errW_some] <;> rfl) | (simp [*, errW_none, errW_some] <;> rfl), by repeat (with_reducible first | exact HB.out | apply below_alloc | apply pw_below_drewN | apply below_drew1 | refine below_set ?_ GE128.out)⟩

/-! ### ho89: slices.IndexFunc, function 89, at whatever function value that reads -/
set_option maxHeartbeats 2000000 in
theorem ho89 (p : S77 → Option Bool) (g : Nat) (la lb : Array Value) (eg : ∀ args w, (callFunc g args).run Try.prog w = .ok (.enter g args) w) (A0 : Option Addr) (c0 : Nat) (l0 : List S77) (r : Int) (w : World)
 (hr0 : Kd.C k77 w A0 l0.length l0)
 (hp : ∀ (W : World) (x : S77) (b : Bool), Below w.heap.size w W → p x = some b → Calls Try.prog g (la ++ #[.agg #[.int .i64 x.f0, .int .i64 x.f1]] ++ lb) W fun e W' => e = .returned (.bool b) ∧ Below W.heap.size W W')
 (h : idxF p l0 0 = some r) :
 Calls Try.prog 89 #[.slice A0 l0.length c0, .func (.func g) la lb] w fun e w' => e = .returned (.int .i64 r) ∧ Below w.heap.size w w' := by
 have hmax : l0.length ≤ 9223372036854775807 := Kd.C_max hr0
 have hread : ∀ (W : World), Below w.heap.size w W → ∀ j : Nat, j < l0.length → ∃ ad, A0 = some ad ∧ W.cell? (ad.add (j * 2)) = some (.int .i64 ((rd_T77 l0 j).f0)) ∧ W.cell? ⟨(ad.add (j * 2)).block, (ad.add (j * 2)).off + 1, none⟩ = some (.int .i64 ((rd_T77 l0 j).f1)) := by
  intro W hW j hj
  have := at_T77 (Kd.C_below hr0 hW) (j : Int) (by omega) (by omega)
  simpa only [Int.toNat_natCast] using this
 generalize hn : l0.length = n at *
 have HR := Aside0.mk hread
 have HP := Aside0.mk hp
 have HH := Aside0.mk h
 clear hread hp h hr0
 have HN := Aside0.mk hn
 clear hn
 go_enter Try.func89, Try.ntmps89
 go_wp2
 go_loopg [5, 8] n (fun gg _ s8 wr => ∃ kk : Nat, kk ≤ n ∧ n - kk ≤ gg ∧ s8 = .int .i64 kk ∧ Aside0 (Below w.heap.size w wr) ∧ Aside0 (idxF p (l0.drop kk) kk = some r))
 case atStart => exact ⟨0, Nat.zero_le _, by omega, rfl, ⟨Below.refl _ w⟩, ⟨HH.out⟩⟩
 case round =>
  obtain ⟨kk, hkk, hg, rfl, BW, HI⟩ := hrel
  by_cases hlt : kk < n
  · have hltz : (kk : Int) < (n : Int) := by omega
    obtain ⟨ad, e0, q0, q1⟩ := HR.out wr BW.out kk hlt
    have hi := HI.out
    rw [idxF_drop p l0 z77 kk (by rw [HN.out]; exact hlt)] at hi
    obtain ⟨b, hb, hi⟩ := Option.bind_eq_some_iff.mp hi
    have hcall := HP.out wr _ b BW.out hb
    (try rw [show l0.getD kk z77 = rd_T77 l0 kk from rfl] at hcall)
    generalize rd_T77 l0 kk = y at q0 q1 hcall
    subst e0
    clear hb HI
    cases b with
    | true =>
     have hi2 : (kk : Int) = r := by simpa using hi
     clear hi
     have HE := Aside0.mk hi2
     clear hi2
     go_wp2_with (go_at_fn g; refine hcall.mono ?_; rintro e w' ⟨rfl, hb'⟩)
     go_ret
     exact ⟨by first | rfl | (rw [← HE.out]; rfl) | simp [HE.out], BW.out.trans (hb'.mono BW.out.size)⟩
    | false =>
     have hi2 : idxF p (l0.drop (kk + 1)) (kk + 1) = some r := by simpa using hi
     clear hi
     have HE := Aside0.mk hi2
     clear hi2
     go_wp2_with (go_at_fn g; refine hcall.mono ?_; rintro e w' ⟨rfl, hb'⟩)
     go_roundg (n - (kk + 1))
     case measure => omega
     case rel =>
      exact ⟨kk + 1, by omega, by omega, by go_num, ⟨BW.out.trans (hb'.mono BW.out.size)⟩, ⟨HE.out⟩⟩
  · have hltz : ¬ (kk : Int) < (n : Int) := by omega
    have : kk = n := by omega
    subst this
    have hi := HI.out
    rw [List.drop_of_length_le (by rw [HN.out]; omega)] at hi
    have hi2 : -1 = r := by simpa [idxF] using hi
    clear hi HI
    have HE := Aside0.mk hi2
    clear hi2
    go_wp2
    go_ret
    exact ⟨by first | rfl | (rw [← HE.out]; rfl) | simp [HE.out], BW.out⟩

/-! ### ho78: slices.ContainsFunc, function 78 -/
set_option maxHeartbeats 2000000 in
theorem ho78 (p : S77 → Option Bool) (g : Nat) (la lb : Array Value) (eg : ∀ args w, (callFunc g args).run Try.prog w = .ok (.enter g args) w) (A0 : Option Addr) (c0 : Nat) (l0 : List S77) (r : Bool) (w : World)
 (hr0 : Kd.C k77 w A0 l0.length l0)
 (hp : ∀ (W : World) (x : S77) (b : Bool), Below w.heap.size w W → p x = some b → Calls Try.prog g (la ++ #[.agg #[.int .i64 x.f0, .int .i64 x.f1]] ++ lb) W fun e W' => e = .returned (.bool b) ∧ Below W.heap.size W W')
 (h : anyF p l0 = some r) :
 Calls Try.prog 78 #[.slice A0 l0.length c0, .func (.func g) la lb] w fun e w' => e = .returned (.bool r) ∧ Below w.heap.size w w' := by
 obtain ⟨i, hi, hd⟩ := any_idx l0 0 r (by decide) h
 have hc := Aside0.mk (ho89 p g la lb eg A0 c0 l0 i w hr0 hp hi)
 have HD := Aside0.mk hd
 clear hd hi h hp hr0 eg
 go_enter Try.func78, Try.ntmps78
 go_wp2_with (go_at_call 89; refine hc.out.mono ?_; rintro e w' ⟨rfl, hb⟩)
 go_ret
 exact ⟨by first | rfl | (rw [← HD.out]; rfl) | simp [HD.out], hb⟩

/-! ### any_at_heap_Put_1: function 78 at the function value 79 -/
def any_at_heap_Put_1.f (l0 : List (S77)) : Option (Bool) := anyF (fun x => heap_Put_1.f  x.f0 x.f1) l0
theorem any_at_heap_Put_1.calls (A0 : Option Addr) (c0 : Nat) (l0 : List (S77)) (r : Bool) (w : World) (hr0 : Kd.C k77 w A0 l0.length l0) (hc0 : l0.length ≤ c0) (h : any_at_heap_Put_1.f l0 = some r) :
 Calls Try.prog 78 #[.slice A0 l0.length c0, .func (.func 79) #[] #[]] w fun e w' => e = .returned (.bool r) ∧ Below w.heap.size w w' :=
 ho78 (fun x => heap_Put_1.f  x.f0 x.f1) 79 #[] #[] (enters_of Try.func79 (by kernel_rfl) rfl) A0 c0 l0 r w hr0 (fun W x b hW_ hx => by
  show Calls Try.prog 79 #[.agg #[.int .i64 x.f0, .int .i64 x.f1]] W _
  exact (heap_Put_1.calls  x.f0 x.f1 b W hx).mono (fun e W' ⟨he, hd⟩ => ⟨he, hd⟩)) h

/-! ### heap_Put: function 61 -/
mutual
def heap_Put.j0 : Nat → List (S66) → List (S77) → Bool → Option ((List (S66)) × Int)
 | 0, _, _, _ => none
 | k + 1, x0, x1, x15 => if x15 = true then (some (x0, 1)) else ((slices_Clone_76.f x0).bind fun t132 => (heap_Put.l0 k x0 t132 x1 (x1.length : Int) 0))
def heap_Put.l0 : Nat → List (S66) → List (S66) → List (S77) → Int → Int → Option ((List (S66)) × Int)
 | 0, _, _, _, _, _ => none
 | k + 1, x0, x6, x19, x20, x21 => if x21 < x20 then (if 0 ≤ x21 then (if x21 < (x19.length : Int) then ((heap_there.f x0 ((rd_T77 x19 x21).f0)).bind fun t137 => (if t137 = true then (if 0 ≤ ((rd_T77 x19 x21).f0) then (if ((rd_T77 x19 x21).f0) < (x6.length : Int) then (heap_Put.l0 k x0 (x6.set (((rd_T77 x19 x21).f0) : Int).toNat (⟨(rd_T66 x6 ((rd_T77 x19 x21).f0)).f0, (rd_T77 x19 x21).f1⟩ : S66)) x19 x20 (wrap64 (x21 + 1))) else (none)) else (none)) else (some (x0, 3)))) else (none)) else (none)) else (some (x6, 0))
end
def heap_Put.f (k : Nat) (l0 : List (S66)) (l1 : List (S77)) : Option ((List (S66)) × Int) := (heap_Right.f l0).bind fun t130 => (if t130 = true then ((any_at_heap_Put_1.f l1).bind fun t131 => (heap_Put.j0 k l0 l1 t131)) else (heap_Put.j0 k l0 l1 true))
theorem heap_Put.mono_l : ∀ k, (∀ y0 y1 y2, LeO (heap_Put.j0 k y0 y1 y2) (heap_Put.j0 (k + 1) y0 y1 y2)) ∧ (∀ y0 y1 y2 y3 y4, LeO (heap_Put.l0 k y0 y1 y2 y3 y4) (heap_Put.l0 (k + 1) y0 y1 y2 y3 y4))
 | 0 => ⟨fun _ _ _ r h => by simp [heap_Put.j0] at h, fun _ _ _ _ _ r h => by simp [heap_Put.l0] at h⟩
 | k + 1 => by
  obtain ⟨ih0, ih1⟩ := heap_Put.mono_l k
  refine ⟨?_, ?_⟩
  · intro y0 y1 y2
    unfold heap_Put.j0
    repeat' first
    | (with_reducible exact ih0 _ _ _)
    | (with_reducible exact ih1 _ _ _ _ _)
    | (with_reducible exact LeO.refl _)
    | (with_reducible exact LeO.none _)
    | (with_reducible refine LeO.ite ?_ ?_)
    | (with_reducible refine LeO.bind ?_ (fun _ => ?_))
    | exact ih0 _ _ _
    | exact ih1 _ _ _ _ _
    | exact LeO.none _
    | refine LeO.ite ?_ ?_
    | refine LeO.bind ?_ (fun _ => ?_)
  · intro y0 y1 y2 y3 y4
    unfold heap_Put.l0
    repeat' first
    | (with_reducible exact ih0 _ _ _)
    | (with_reducible exact ih1 _ _ _ _ _)
    | (with_reducible exact LeO.refl _)
    | (with_reducible exact LeO.none _)
    | (with_reducible refine LeO.ite ?_ ?_)
    | (with_reducible refine LeO.bind ?_ (fun _ => ?_))
    | exact ih0 _ _ _
    | exact ih1 _ _ _ _ _
    | exact LeO.none _
    | refine LeO.ite ?_ ?_
    | refine LeO.bind ?_ (fun _ => ?_)
theorem heap_Put.mono : ∀ a0 a1 k, LeO (heap_Put.f k a0 a1) (heap_Put.f (k + 1) a0 a1) := by
 intro a0 a1 k
 obtain ⟨ih0, ih1⟩ := heap_Put.mono_l k
 unfold heap_Put.f
 repeat' first
  | (with_reducible exact ih0 _ _ _)
  | (with_reducible exact ih1 _ _ _ _ _)
  | (with_reducible exact LeO.refl _)
  | (with_reducible exact LeO.none _)
  | (with_reducible refine LeO.ite ?_ ?_)
  | (with_reducible refine LeO.bind ?_ (fun _ => ?_))
  | exact ih0 _ _ _
  | exact ih1 _ _ _ _ _
  | exact LeO.none _
  | refine LeO.ite ?_ ?_
  | refine LeO.bind ?_ (fun _ => ?_)
set_option maxHeartbeats 8000000 in
set_option maxRecDepth 100000 in
theorem heap_Put.calls (k : Nat) (P0_ : Nat → Prop) (A0 : Option Addr) (c0 : Nat) (l0 : List (S66)) (A1 : Option Addr) (c1 : Nat) (l1 : List (S77)) (r1 : List (S66)) (r2 : Int) (w : World) (hs0 : Kd.V k66 66 w w.heap.size (fun k_ => P0_ k_) (.slice A0 l0.length c0) l0) (hr1 : Kd.C k77 w A1 l1.length l1) (hc1 : l1.length ≤ c1) (h : heap_Put.f k l0 l1 = some (r1, r2)) :
 Calls Try.prog 61 #[.slice A0 l0.length c0, .slice A1 l1.length c1] w fun e w' => ∃ v0_ : Value, e = .returned (.tuple #[v0_, .int .i64 r2]) ∧ Kd.V k66 66 w' w.heap.size (fun k_ => (P0_ k_ ∨ w.heap.size ≤ k_)) v0_ r1 ∧ Below w.heap.size w w' := by
 have hu77 := Try.underlying77
 have HO0 := Aside0.mk (show Kd.V k66 66 w w.heap.size (fun k_ => (P0_ k_ ∨ w.heap.size ≤ k_)) (.slice A0 l0.length c0) l0 from Kd.V_mono hs0 (fun k_ hk => .inl hk))
 have HR1 := Aside0.mk hr1
 have HC1 := Aside0.mk hc1
 clear hr1 hc1
 have HB := Aside0.mk (Below.refl w.heap.size w)
 have H : ((heap_Right.f l0).bind fun t130 => (if t130 = true then ((any_at_heap_Put_1.f l1).bind fun t131 => (heap_Put.j0 k l0 l1 t131)) else (heap_Put.j0 k l0 l1 true))) = some (r1, r2) := h
 clear h
 have HC3 := Aside0.mk H
 clear H
 go_enter Try.func61, Try.ntmps61
 go_upto_region 1 with (fail)
 go_cut [15] (fun v15 wc => ∃ (kq : Nat) (x15_2 : Bool), v15 = .bool x15_2 ∧ Aside0 (heap_Put.j0 kq l0 l1 x15_2 = some (r1, r2)) ∧ Aside0 (kq ≤ k) ∧ Aside0 (Kd.V k66 66 wc w.heap.size (fun k_ => (P0_ k_ ∨ w.heap.size ≤ k_)) (.slice A0 l0.length c0) l0) ∧ Aside0 (Below w.heap.size w wc))
 case first =>
  have H := HC3.out
  clear HC3
  replace H := Option.bind_eq_some_iff.mp H
  obtain ⟨t130, A40, H⟩ := H
  replace H : (if t130 = true then ((any_at_heap_Put_1.f l1).bind fun t131 => (heap_Put.j0 k l0 l1 t131)) else (heap_Put.j0 k l0 l1 true)) = some (r1, r2) := H
  have A4 := Aside0.mk A40
  clear A40
  by_cases c5 : t130 = true
  · subst c5
    have H1 : ((any_at_heap_Put_1.f l1).bind fun t131 => (heap_Put.j0 k l0 l1 t131)) = some (r1, r2) := by rw [if_pos rfl] at H; exact H
    clear H
    have H := H1
    clear H1
    replace H := Option.bind_eq_some_iff.mp H
    obtain ⟨t131, A60, H⟩ := H
    replace H : (heap_Put.j0 k l0 l1 t131) = some (r1, r2) := H
    have A6 := Aside0.mk A60
    clear A60
    have H' := Aside0.mk H
    clear H
    go_wp2_with (first | ((with_reducible refine gate_callee (f := 45) rfl ?_); refine goesL_ (some 10) rfl rfl Try.func45 (by kernel_rfl) rfl #[.slice A0 l0.length c0] rfl (by (try simp only [List.map_toArray, List.map_cons, List.map_nil]); first | done | rfl) ?_; (with_reducible refine (heap_Right.calls _ _ l0 true _ ?side1 ?side2 A4.out).mono ?_); (case side1 => repeat (first | exact (Kd.V_reads' HO0.out).2.2 | with_reducible first | refine Kd.C_alloc ?_ _ | refine Kd.C_drewN ?_ _ | refine Kd.C_drew ?_)); (case side2 => exact (Kd.V_reads' HO0.out).2.1); rintro e w7 ⟨rfl, hb⟩; refine ⟨_, rfl, ?_⟩; have n0_ := Aside0.mk (Kd.V_below (by (with_reducible repeat (first | apply Kd.V_alloc | apply Kd.V_drewN | apply Kd.V_drew)); exact HO0.out) hb); have n1_ := Aside0.mk (bst_ hb); clear HO0; clear HB; have HO0 := n0_; have HB := n1_; clear n0_ n1_; (try clear hb); (try clear hb2); (try clear hk); (try clear hi)) | (go_at_call 78; (with_reducible refine (any_at_heap_Put_1.calls _ _ l1 t131 _ ?side1 ?side2 A6.out).mono ?_); (case side1 => repeat (first | exact (Kd.C_below HR1.out HB.out) | with_reducible first | refine Kd.C_alloc ?_ _ | refine Kd.C_drewN ?_ _ | refine Kd.C_drew ?_)); (case side2 => exact HC1.out); rintro e w8 ⟨rfl, hb⟩; have n0_ := Aside0.mk (Kd.V_below (by (with_reducible repeat (first | apply Kd.V_alloc | apply Kd.V_drewN | apply Kd.V_drew)); exact HO0.out) hb); have n1_ := Aside0.mk (bst_ hb); clear HO0; clear HB; have HO0 := n0_; have HB := n1_; clear n0_ n1_; (try clear hb); (try clear hb2); (try clear hk); (try clear hi)))
    go_meet
    case rel => exact ⟨_, (t131), (by first | rfl | (simp; done) | (simp [*]; done)), H', ⟨by first | omega | exact Nat.le_refl _⟩, ⟨by (with_reducible repeat (first | apply Kd.V_alloc | apply Kd.V_drewN | apply Kd.V_drew)); exact HO0.out⟩, ⟨by repeat (with_reducible first | exact HB.out | apply below_alloc | apply pw_below_drewN | apply below_drew1)⟩⟩
  · replace c5 := Bool.eq_false_iff.mpr c5
    subst c5
    have H1 : (heap_Put.j0 k l0 l1 true) = some (r1, r2) := by rw [if_neg (show ¬ (false = true) by decide)] at H; exact H
    clear H
    have H := H1
    clear H1
    have H' := Aside0.mk H
    clear H
    go_wp2_with (first | ((with_reducible refine gate_callee (f := 45) rfl ?_); refine goesL_ (some 10) rfl rfl Try.func45 (by kernel_rfl) rfl #[.slice A0 l0.length c0] rfl (by (try simp only [List.map_toArray, List.map_cons, List.map_nil]); first | done | rfl) ?_; (with_reducible refine (heap_Right.calls _ _ l0 false _ ?side1 ?side2 A4.out).mono ?_); (case side1 => repeat (first | exact (Kd.V_reads' HO0.out).2.2 | with_reducible first | refine Kd.C_alloc ?_ _ | refine Kd.C_drewN ?_ _ | refine Kd.C_drew ?_)); (case side2 => exact (Kd.V_reads' HO0.out).2.1); rintro e w9 ⟨rfl, hb⟩; refine ⟨_, rfl, ?_⟩; have n0_ := Aside0.mk (Kd.V_below (by (with_reducible repeat (first | apply Kd.V_alloc | apply Kd.V_drewN | apply Kd.V_drew)); exact HO0.out) hb); have n1_ := Aside0.mk (bst_ hb); clear HO0; clear HB; have HO0 := n0_; have HB := n1_; clear n0_ n1_; (try clear hb); (try clear hb2); (try clear hk); (try clear hi)))
    go_meet
    case rel => exact ⟨_, (true), (by first | rfl | (simp; done) | (simp [*]; done)), H', ⟨by first | omega | exact Nat.le_refl _⟩, ⟨by (with_reducible repeat (first | apply Kd.V_alloc | apply Kd.V_drewN | apply Kd.V_drew)); exact HO0.out⟩, ⟨by repeat (with_reducible first | exact HB.out | apply below_alloc | apply pw_below_drewN | apply below_drew1)⟩⟩
 case rest =>
  clear HC3
  try clear c1
  try clear p2
  try clear c4
  try clear c5
  try clear c6
  obtain ⟨kq, x15_2, rfl, HA, HJ2, HO_0, HB⟩ := hcut
  cases kq with
  | zero => exact absurd HA.out (by simp [heap_Put.j0])
  | succ kj2 =>
   have H := HA.out
   clear HA
   simp only [heap_Put.j0] at H
   by_cases c10 : x15_2 = true
   · subst c10
     have H1 : (some (l0, 1)) = some (r1, r2) := by rw [if_pos rfl] at H; exact H
     clear H
     have H := H1
     clear H1
     simp only [Option.some.injEq, Prod.mk.injEq] at H
     obtain ⟨rfl, rfl⟩ := H
     go_wp2
     go_ret2
     exact ⟨_, by first | rfl | (simp [errW_none, errW_some] <;> rfl) | (simp [*, errW_none, errW_some] <;> rfl), by (with_reducible repeat (first | apply Kd.V_alloc | apply Kd.V_drewN | apply Kd.V_drew)); exact HO_0.out, by repeat (with_reducible first | exact HB.out | apply below_alloc | apply pw_below_drewN | apply below_drew1)⟩
   · replace c10 := Bool.eq_false_iff.mpr c10
     subst c10
     have H1 : ((slices_Clone_76.f l0).bind fun t132 => (heap_Put.l0 kj2 l0 t132 l1 (l1.length : Int) 0)) = some (r1, r2) := by rw [if_neg (show ¬ (false = true) by decide)] at H; exact H
     clear H
     have H := H1
     clear H1
     replace H := Option.bind_eq_some_iff.mp H
     obtain ⟨t132, A110, H⟩ := H
     replace H : (heap_Put.l0 kj2 l0 t132 l1 (l1.length : Int) 0) = some (r1, r2) := H
     have A11 := Aside0.mk A110
     clear A110
     have H' := Aside0.mk H
     clear H
     go_wp2_with (first | ((with_reducible refine gate_callee (f := 76) rfl ?_); refine goesL_ (some 18) rfl rfl Try.func76 (by kernel_rfl) rfl #[.slice A0 l0.length c0] rfl (by (try simp only [List.map_toArray, List.map_cons, List.map_nil]); first | done | rfl) ?_; (with_reducible refine (slices_Clone_76.calls _ _ l0 t132 _ ?side1 ?side2 A11.out).mono ?_); (case side1 => repeat (first | exact (Kd.V_reads' HO_0.out).2.2 | with_reducible first | refine Kd.C_alloc ?_ _ | refine Kd.C_drewN ?_ _ | refine Kd.C_drew ?_)); (case side2 => exact (Kd.V_reads' HO_0.out).2.1); rintro e w12 ⟨v133, rfl, ho0, hb⟩; refine ⟨_, rfl, ?_⟩; have n0_ := Aside0.mk (Kd.V_elder' (by (with_reducible repeat (first | apply Kd.V_alloc | apply Kd.V_drewN | apply Kd.V_drew)); exact HO_0.out) (Kd.R_base ho0) hb); have n1_ := Aside0.mk (Kd.R_lower (Kd.R_newM (M := fun k_ => (w.heap.size ≤ k_)) ho0 bsz_ (fun k_ h_ => h_)) bsz_); have n2_ := Aside0.mk (bst_ hb); clear HO_0; clear HB; have HO_0 := n0_; have HO134 := n1_; have HB := n2_; clear n0_ n1_ n2_; (try clear hb); (try clear hb2); (try clear hk); (try clear hi); (try clear ho0)))
     go_loopg [21] kj2 (fun kq v21 w' => ∃ (x6_2 : List (S66)) (x21_2 : Int), v21 = .int .i64 x21_2 ∧ Aside0 (heap_Put.l0 kq l0 x6_2 l1 (l1.length : Int) x21_2 = some (r1, r2)) ∧ Aside0 (kq ≤ kj2) ∧ Aside0 (Kd.V k66 66 w' w.heap.size (fun k_ => (P0_ k_ ∨ w.heap.size ≤ k_) ∧ some k_ ≠ (v133 : Value).ownBlock) (.slice A0 l0.length c0) l0) ∧ Aside0 (Kd.R k66 66 w' w.heap.size (fun k_ => (w.heap.size ≤ k_)) v133 x6_2) ∧ Aside0 (Below w.heap.size w w'))
     case atStart => exact ⟨(t132), (0), (by first | rfl | (simp; done) | (simp [*]; done)), H', ⟨Nat.le_refl _⟩, ⟨by (with_reducible repeat (first | apply Kd.V_alloc | apply Kd.V_drewN | apply Kd.V_drew)); exact HO_0.out⟩, ⟨by (with_reducible repeat (first | apply Kd.R_alloc | apply Kd.R_drewN | apply Kd.R_drew)); exact Kd.R_mono HO134.out (fun _ hk => hk.1)⟩, ⟨by repeat (with_reducible first | exact HB.out | apply below_alloc | apply pw_below_drewN | apply below_drew1)⟩⟩
     case round =>
      clear H'
      try clear c1
      try clear p2
      try clear c4
      try clear c5
      try clear c6
      try clear c7
      try clear c10
      try clear p2
      obtain ⟨x6_2, x21_2, rfl, HA, HK2, HO_0, HO_6, HB⟩ := hrel
      cases gk with
      | zero => exact absurd HA.out (by simp [heap_Put.l0])
      | succ k2 =>
       have H := HA.out
       clear HA
       simp only [heap_Put.l0] at H
       by_cases c13 : x21_2 < (l1.length : Int)
       · rw [if_pos c13] at H
         have c13b0 : decide (x21_2 < (l1.length : Int)) = true := decide_eq_true c13
         clear c13
         by_cases c14 : 0 ≤ x21_2
         · rw [if_pos c14] at H
           have c14b0 : decide (0 ≤ x21_2) = true := decide_eq_true c14
           clear c14
           by_cases c15 : x21_2 < (l1.length : Int)
           · rw [if_pos c15] at H
             have c15b0 : decide (x21_2 < (l1.length : Int)) = true := decide_eq_true c15
             clear c15
             replace H := Option.bind_eq_some_iff.mp H
             obtain ⟨t137, A160, H⟩ := H
             replace H : (if t137 = true then (if 0 ≤ ((rd_T77 l1 x21_2).f0) then (if ((rd_T77 l1 x21_2).f0) < (x6_2.length : Int) then (heap_Put.l0 k2 l0 (x6_2.set (((rd_T77 l1 x21_2).f0) : Int).toNat (⟨(rd_T66 x6_2 ((rd_T77 l1 x21_2).f0)).f0, (rd_T77 l1 x21_2).f1⟩ : S66)) l1 (l1.length : Int) (wrap64 (x21_2 + 1))) else (none)) else (none)) else (some (l0, 3))) = some (r1, r2) := H
             have A16 := Aside0.mk A160
             clear A160
             by_cases c17 : t137 = true
             · subst c17
               have H1 : (if 0 ≤ ((rd_T77 l1 x21_2).f0) then (if ((rd_T77 l1 x21_2).f0) < (x6_2.length : Int) then (heap_Put.l0 k2 l0 (x6_2.set (((rd_T77 l1 x21_2).f0) : Int).toNat (⟨(rd_T66 x6_2 ((rd_T77 l1 x21_2).f0)).f0, (rd_T77 l1 x21_2).f1⟩ : S66)) l1 (l1.length : Int) (wrap64 (x21_2 + 1))) else (none)) else (none)) = some (r1, r2) := by rw [if_pos rfl] at H; exact H
               clear H
               have H := H1
               clear H1
               by_cases c18 : 0 ≤ ((rd_T77 l1 x21_2).f0)
               · rw [if_pos c18] at H
                 have c18b0 : decide (0 ≤ ((rd_T77 l1 x21_2).f0)) = true := decide_eq_true c18
                 clear c18
                 by_cases c19 : ((rd_T77 l1 x21_2).f0) < (x6_2.length : Int)
                 · rw [if_pos c19] at H
                   have c19b0 : decide (((rd_T77 l1 x21_2).f0) < (x6_2.length : Int)) = true := decide_eq_true c19
                   clear c19
                   obtain ⟨y138, hy138⟩ : ∃ y_ : List (S66), y_ = (x6_2.set (((rd_T77 l1 x21_2).f0) : Int).toNat (⟨(rd_T66 x6_2 ((rd_T77 l1 x21_2).f0)).f0, (rd_T77 l1 x21_2).f1⟩ : S66)) := ⟨_, rfl⟩
                   replace H : (heap_Put.l0 k2 l0 y138 l1 (l1.length : Int) (wrap64 (x21_2 + 1))) = some (r1, r2) := by first | (rw [hy138]; with_reducible exact H) | (have H2_ := (Option.bind_some _ _).symm.trans H; rw [hy138]; with_reducible exact H2_) | (have H2_ := (Option.bind_some _ _).symm.trans H; with_reducible exact H2_) | with_reducible exact H | (rw [hy138]; exact H) | exact H
                   have Ny138 := Aside0.mk hy138
                   clear hy138
                   have H' := Aside0.mk H
                   clear H
                   have p135 : 0 ≤ (x21_2 : Int) := of_decide_eq_true (by first | (with_reducible assumption) | assumption)
                   have q135 : x21_2 < (l1.length : Int) := of_decide_eq_true (by first | (with_reducible assumption) | assumption)
                   obtain ⟨ad135, e135, hx135_0, hx135_1⟩ := at_T77 HR1.out x21_2 p135 q135
                   cases e135
                   replace hx135_0 := (HB.out.cell (World.block_lt_of_cell? w _ hx135_0)).trans hx135_0
                   replace hx135_1 := (HB.out.cell (World.block_lt_of_cell? w _ hx135_1)).trans hx135_1
                   replace p135 := eq_true p135
                   replace q135 := eq_true q135
                   go_wp2_with (first | ((with_reducible refine gate_dst (N := 8) rfl ?_); refine box_event ?hg (N := 8) ?hd (cs := #[.int .i64 0, .int .i64 0]) (t := 77) ?hr ?_; (case hd => rfl); (case hg => rfl); (case hr => first | (go_simp; done) | (go_simp; rfl)); intro gb136 hg w21 hbox hb; have n0_ := Aside0.mk (Kd.V_below (Kd.V_elderB (by (with_reducible repeat (first | apply Kd.V_alloc | apply Kd.V_drewN | apply Kd.V_drew)); exact HO_0.out) gb136 (Nat.le_of_eq hg.symm)) hb); have n1_ := Aside0.mk (Kd.R_below (by (with_reducible repeat (first | apply Kd.R_alloc | apply Kd.R_drewN | apply Kd.R_drew)); exact HO_6.out) hb); have n2_ := Aside0.mk (bst_ hb); have n3_ := Aside0.mk (hbox); have n4_ := Aside0.mk ((by rw [hg]; exact bsz_ : w.heap.size ≤ gb136)); have n5_ := n4_; clear HO_0; clear HO_6; clear HB; have HO_0 := n0_; have HO_6 := n1_; have HB := n2_; have BK136 := n3_; have GW136 := n4_; have GE136 := n5_; clear n0_ n1_ n2_ n3_ n4_ n5_; clear hb hbox hg; have hcz22_0 : w21.cell? ⟨gb136, 0, none⟩ = some (.int .i64 0) := (blk_cell BK136.out 0).trans rfl; have hcz22_1 : w21.cell? ⟨gb136, 1, none⟩ = some (.int .i64 0) := (blk_cell BK136.out 1).trans rfl; have hfz22_0 := blk_frozen BK136.out 0; have hfz22_1 := blk_frozen BK136.out 1) | ((with_reducible refine gate_store (t := 77) (p := 8) rfl ?_); refine store_event (t := 77) (p := 8) (v := ?vo_w23) (w1 := ((w21.setCell ⟨gb136, 0, none⟩ (.int .i64 ((rd_T77 l1 x21_2).f0))).setCell ⟨gb136, 1, none⟩ (.int .i64 ((rd_T77 l1 x21_2).f1)))) ?hg ?ho ?hn ?hr ?_; (case ho => rfl); (case hg => rfl); (case hn => rfl); (case hr => first | (go_simp; done) | (go_simp; rfl)); intro w23 hw; have n0_ : Aside0 (Kd.V k66 66 w23 w.heap.size (fun k_ => (P0_ k_ ∨ w.heap.size ≤ k_) ∧ some k_ ≠ (v133 : Value).ownBlock ∧ k_ ≠ gb136) (.slice A0 l0.length c0) l0) := ⟨(by rw [hw]; exact (by (with_reducible repeat (first | apply Kd.V_alloc | apply Kd.V_drewN | apply Kd.V_drew)); exact Kd.V_mono (Kd.V_far (p := ⟨gb136, 1, none⟩) (Kd.V_far (p := ⟨gb136, 0, none⟩) (Kd.V_mono HO_0.out (fun k_ hk => (⟨hk, hk.2⟩ : _ ∧ k_ ≠ gb136))) (fun _ hk => hk.2) (.int .i64 ((rd_T77 l1 x21_2).f0))) (fun _ hk => hk.2) (.int .i64 ((rd_T77 l1 x21_2).f1))) (fun _ hk => ⟨hk.1.1.1, ⟨hk.1.1.2, hk.1.2⟩⟩)))⟩; have n1_ : Aside0 (Kd.R k66 66 w23 w.heap.size (fun k_ => (w.heap.size ≤ k_)) v133 x6_2) := ⟨(by rw [hw]; exact (by (with_reducible repeat (first | apply Kd.R_alloc | apply Kd.R_drewN | apply Kd.R_drew)); exact Kd.R_mono (Kd.R_far (p := ⟨gb136, 1, none⟩) (Kd.R_far (p := ⟨gb136, 0, none⟩) (Kd.R_types HO_6.out BK136.out (by decide)) (fun _ hk => hk.2) (.int .i64 ((rd_T77 l1 x21_2).f0))) (fun _ hk => hk.2) (.int .i64 ((rd_T77 l1 x21_2).f1))) (fun _ hk => hk.1)))⟩; have n2_ : Aside0 (w23.heap[gb136]? = some (.cells #[.int .i64 ((rd_T77 l1 x21_2).f0), .int .i64 ((rd_T77 l1 x21_2).f1)] 77 (0, 0))) := ⟨(by rw [hw]; exact (by (with_reducible repeat (first | refine blk_drewN ?_ _ | refine blk_drew ?_ | refine blk_alloc ?_ _)); refine blk_put (cs := #[.int .i64 ((rd_T77 l1 x21_2).f0), .int .i64 0]) ?_ 1 _ rfl; (with_reducible repeat (first | refine blk_drewN ?_ _ | refine blk_drew ?_ | refine blk_alloc ?_ _)); refine blk_put (cs := #[.int .i64 0, .int .i64 0]) ?_ 0 _ rfl; (with_reducible repeat (first | refine blk_drewN ?_ _ | refine blk_drew ?_ | refine blk_alloc ?_ _)); exact BK136.out))⟩; have n3_ : Aside0 (Below w.heap.size w w23) := ⟨(by rw [hw]; exact (by repeat (with_reducible first | exact HB.out | apply below_alloc | apply pw_below_drewN | apply below_drew1 | refine below_set ?_ GE136.out)))⟩; clear hw; clear HO_0; clear HO_6; clear BK136; clear HB; have HO_0 := n0_; have HO_6 := n1_; have BK136 := n2_; have HB := n3_; clear n0_ n1_ n2_ n3_; have hcz24_0 : w23.cell? ⟨gb136, 0, none⟩ = some (.int .i64 ((rd_T77 l1 x21_2).f0)) := (blk_cell BK136.out 0).trans rfl; have hcz24_1 : w23.cell? ⟨gb136, 1, none⟩ = some (.int .i64 ((rd_T77 l1 x21_2).f1)) := (blk_cell BK136.out 1).trans rfl; have hfz24_0 := blk_frozen BK136.out 0; have hfz24_1 := blk_frozen BK136.out 1) | ((with_reducible refine gate_callee (f := 56) rfl ?_); refine goesL_ (some 28) rfl rfl Try.func56 (by kernel_rfl) rfl #[.slice A0 l0.length c0, .int .i64 ((rd_T77 l1 x21_2).f0)] rfl (by (try simp only [List.map_toArray, List.map_cons, List.map_nil]); first | done | rfl) ?_; (with_reducible refine (heap_there.calls _ _ l0 ((rd_T77 l1 x21_2).f0) true _ ?side1 ?side2 A16.out).mono ?_); (case side1 => repeat (first | exact (Kd.V_reads' HO_0.out).2.2 | with_reducible first | refine Kd.C_alloc ?_ _ | refine Kd.C_drewN ?_ _ | refine Kd.C_drew ?_)); (case side2 => exact (Kd.V_reads' HO_0.out).2.1); rintro e w' ⟨rfl, ⟨nd, rfl⟩⟩; refine ⟨_, rfl, ?_⟩; (try (rw [drewN_self w23]; generalize hq_ : World.drewN w23 _ = w23; have n0_ : Aside0 (Kd.V k66 66 w23 w.heap.size (fun k_ => (P0_ k_ ∨ w.heap.size ≤ k_) ∧ some k_ ≠ (v133 : Value).ownBlock ∧ k_ ≠ gb136) (.slice A0 l0.length c0) l0) := ⟨by rw [← hq_]; exact (by (with_reducible repeat (first | apply Kd.V_alloc | apply Kd.V_drewN | apply Kd.V_drew)); exact HO_0.out)⟩; have n1_ : Aside0 (Kd.R k66 66 w23 w.heap.size (fun k_ => (w.heap.size ≤ k_)) v133 x6_2) := ⟨by rw [← hq_]; exact (by (with_reducible repeat (first | apply Kd.R_alloc | apply Kd.R_drewN | apply Kd.R_drew)); exact HO_6.out)⟩; have n2_ : Aside0 (w23.heap[gb136]? = some (.cells #[.int .i64 ((rd_T77 l1 x21_2).f0), .int .i64 ((rd_T77 l1 x21_2).f1)] 77 (0, 0))) := ⟨by rw [← hq_]; exact (by (with_reducible repeat (first | refine blk_drewN ?_ _ | refine blk_drew ?_ | refine blk_alloc ?_ _)); exact BK136.out)⟩; have n3_ : Aside0 (Below w.heap.size w w23) := ⟨by rw [← hq_]; exact (by repeat (with_reducible first | exact HB.out | apply below_alloc | apply pw_below_drewN | apply below_drew1 | refine below_set ?_ GE136.out))⟩; clear HO_0 HO_6 BK136 HB hq_; have HO_0 := n0_; have HO_6 := n1_; have BK136 := n2_; have HB := n3_; clear n0_ n1_ n2_ n3_)); (try have hcu136_0 : w23.cell? ⟨gb136, 0, none⟩ = some (.int .i64 ((rd_T77 l1 x21_2).f0)) := (blk_cell BK136.out 0).trans rfl); (try have hcu136_1 : w23.cell? ⟨gb136, 1, none⟩ = some (.int .i64 ((rd_T77 l1 x21_2).f1)) := (blk_cell BK136.out 1).trans rfl); have p20 : 0 ≤ (((rd_T77 l1 x21_2).f0) : Int) := of_decide_eq_true (by first | (with_reducible assumption) | assumption); have q20 : (((rd_T77 l1 x21_2).f0) : Int) < ((x6_2.length : Int) : Int) := of_decide_eq_true (by first | (with_reducible assumption) | assumption); obtain ⟨go20, co20, eo20, gb20, gl20, cl20, HG20⟩ := Kd.R_form HO_6.out (by omega); (first | cases eo20 | (injection eo20 with ea_ en_ ec_; (first | subst ea_ | (injection ea_ with ea_; subst ea_)); subst ec_; clear en_)); have GB20 := Aside0.mk gb20; have GG20 := Aside0.mk HG20; clear gb20 gl20 HG20; obtain ⟨ce20, hcl20, hM20, hcc20, hfr20⟩ := Kd.R_elem HO_6.out z66 (((rd_T77 l1 x21_2).f0) : Int) p20 q20; obtain rfl := k66_openM hM20; have hx20_0 : w23.cell? ⟨go20, (((rd_T77 l1 x21_2).f0) : Int).toNat * 2, none⟩ = some (.bool ((rd_T66 x6_2 ((rd_T77 l1 x21_2).f0)).f0)) := hcc20 0 _ rfl; have hx20_1 : w23.cell? ⟨go20, (((rd_T77 l1 x21_2).f0) : Int).toNat * 2 + 1, none⟩ = some (.int .i64 ((rd_T66 x6_2 ((rd_T77 l1 x21_2).f0)).f1)) := hcc20 1 _ rfl; have hf20_0 : w23.frozen? ⟨go20, (((rd_T77 l1 x21_2).f0) : Int).toNat * 2, none⟩ = false := hfr20 0; have hf20_1 : w23.frozen? ⟨go20, (((rd_T77 l1 x21_2).f0) : Int).toNat * 2 + 1, none⟩ = false := hfr20 1; clear hcl20 hcc20 hfr20 hM20; replace p20 := eq_true p20; replace q20 := eq_true q20; have HX25 := Aside0.mk (show Kd.R k66 66 w23 w.heap.size (fun k_ => (w.heap.size ≤ k_)) (.slice (some ⟨go20, 0, none⟩) x6_2.length co20) x6_2 from (by (with_reducible repeat (first | apply Kd.R_alloc | apply Kd.R_drewN | apply Kd.R_drew)); exact HO_6.out)); obtain ⟨ce25, hcl25, hM25, hcc25, hfr25⟩ := Kd.R_elem HX25.out z66 (((rd_T77 l1 x21_2).f0) : Int) (of_decide_eq_true (by first | (with_reducible assumption) | assumption)) (by have h_ : (((rd_T77 l1 x21_2).f0) : Int) < ((x6_2.length : Int) : Int) := of_decide_eq_true (by first | (with_reducible assumption) | assumption); first | exact h_ | (have e_ := (Kd.R_reads' HO_6.out).1; omega) | simpa using h_); obtain rfl := k66_openM hM25; have HP25 := Kd.R_seg HX25.out (((rd_T77 l1 x21_2).f0) : Int) (of_decide_eq_true (by first | (with_reducible assumption) | assumption)) (by have h_ : (((rd_T77 l1 x21_2).f0) : Int) < ((x6_2.length : Int) : Int) := of_decide_eq_true (by first | (with_reducible assumption) | assumption); first | exact h_ | (have e_ := (Kd.R_reads' HO_6.out).1; omega) | simpa using h_) (seg := [.int .i64 ((rd_T77 l1 x21_2).f1)]) (j := 1) hcl25 hcc25 (show 2 ≤ 2 from by decide) (x' := (⟨(rd_T66 x6_2 ((rd_T77 l1 x21_2).f0)).f0, (rd_T77 l1 x21_2).f1⟩ : S66)) (k66_mkM _ _ _ (⟨(rd_T66 x6_2 ((rd_T77 l1 x21_2).f0)).f0, (rd_T77 l1 x21_2).f1⟩ : S66) ) (fun _ hk => hk); have hx25_1 := hcc25 1 _ rfl; (try simp only [show (k66).sz = 2 from rfl, Nat.mul_one, Nat.add_zero] at hx25_1); have hf25_1 := hfr25 1; (try simp only [show (k66).sz = 2 from rfl, Nat.mul_one, Nat.add_zero] at hf25_1); clear hcl25 hcc25 hfr25 hM25) | ((with_reducible refine gate_store (t := 3) (p := 37) rfl ?_); refine store_event (t := 3) (p := 37) (v := ?vo_w26) (w1 := (w23.setCell ⟨go20, (((rd_T77 l1 x21_2).f0) : Int).toNat * 2 + 1, none⟩ (.int .i64 ((rd_T77 l1 x21_2).f1)))) ?hg ?ho ?hn ?hr ?_; (case ho => rfl); (case hg => rfl); (case hn => rfl); (case hr => first | (go_simp; done) | (go_simp; rfl)); intro w26 hw; have hg : w23.grownBy w26 (some go20) := (by rw [hw]; exact HP25.2); have hp_ : Kd.R k66 66 w26 w.heap.size (fun k_ => (w.heap.size ≤ k_)) (.slice (some ⟨go20, 0, none⟩) x6_2.length co20) y138 := (by rw [hw, Ny138.out]; exact HP25.1); clear HP25; have n0_ := Aside0.mk (Kd.V_afterv (v := (.slice (some ⟨go20, 0, none⟩) x6_2.length co20)) (v1 := (.slice (some ⟨go20, 0, none⟩) x6_2.length co20)) (ok := (fun k_ => (P0_ k_ ∨ w.heap.size ≤ k_) ∧ k_ ≠ gb136)) (by (with_reducible repeat (first | apply Kd.V_alloc | apply Kd.V_drewN | apply Kd.V_drew)); exact Kd.V_mono HO_0.out (fun _ hk => ⟨⟨hk.1, hk.2.2⟩, hk.2.1⟩)) hg (.inl rfl)); have n1_ := Aside0.mk (hp_); have n2_ := Aside0.mk (blk_grown (g := gb136) (o := .cells #[.int .i64 ((rd_T77 l1 x21_2).f0), .int .i64 ((rd_T77 l1 x21_2).f1)] 77 (0, 0)) (by (with_reducible repeat (first | refine blk_drewN ?_ _ | refine blk_drew ?_ | refine blk_alloc ?_ _)); exact BK136.out) hg (Kd.R_ne HO_6.out BK136.out (by decide))); have n3_ := Aside0.mk ((by rw [hw]; exact below_set (HB.out) GB20.out : Below w.heap.size w w26)); clear HO_0; clear HO_6; clear BK136; clear HB; have HO_0 := n0_; have HO_6 := n1_; have BK136 := n2_; have HB := n3_; clear n0_ n1_ n2_ n3_; clear hg hw hp_))
                   go_roundg k2
                   case measure => have := HJ2.out; have := HK2.out; omega
                   case rel => exact ⟨(y138), (wrap64 (x21_2 + 1)), (by first | rfl | (simp; done) | (simp [*]; done)), H', ⟨by have := HJ2.out; have := HK2.out; omega⟩, ⟨by (with_reducible repeat (first | apply Kd.V_alloc | apply Kd.V_drewN | apply Kd.V_drew)); exact Kd.V_mono HO_0.out (fun _ hk => ⟨hk.1.1, hk.2⟩)⟩, ⟨by (with_reducible repeat (first | apply Kd.R_alloc | apply Kd.R_drewN | apply Kd.R_drew)); exact HO_6.out⟩, ⟨by repeat (with_reducible first | exact HB.out | apply below_alloc | apply pw_below_drewN | apply below_drew1 | refine below_set ?_ GE136.out)⟩⟩
                 · rw [if_neg c19] at H
                   exact absurd H (by simp)
               · rw [if_neg c18] at H
                 exact absurd H (by simp)
             · replace c17 := Bool.eq_false_iff.mpr c17
               subst c17
               have H1 : (some (l0, 3)) = some (r1, r2) := by rw [if_neg (show ¬ (false = true) by decide)] at H; exact H
               clear H
               have H := H1
               clear H1
               simp only [Option.some.injEq, Prod.mk.injEq] at H
               obtain ⟨rfl, rfl⟩ := H
               have p135 : 0 ≤ (x21_2 : Int) := of_decide_eq_true (by first | (with_reducible assumption) | assumption)
               have q135 : x21_2 < (l1.length : Int) := of_decide_eq_true (by first | (with_reducible assumption) | assumption)
               obtain ⟨ad135, e135, hx135_0, hx135_1⟩ := at_T77 HR1.out x21_2 p135 q135
               cases e135
               replace hx135_0 := (HB.out.cell (World.block_lt_of_cell? w _ hx135_0)).trans hx135_0
               replace hx135_1 := (HB.out.cell (World.block_lt_of_cell? w _ hx135_1)).trans hx135_1
               replace p135 := eq_true p135
               replace q135 := eq_true q135
               go_wp2_with (first | ((with_reducible refine gate_dst (N := 8) rfl ?_); refine box_event ?hg (N := 8) ?hd (cs := #[.int .i64 0, .int .i64 0]) (t := 77) ?hr ?_; (case hd => rfl); (case hg => rfl); (case hr => first | (go_simp; done) | (go_simp; rfl)); intro gb136 hg w27 hbox hb; have n0_ := Aside0.mk (Kd.V_below (Kd.V_elderB (by (with_reducible repeat (first | apply Kd.V_alloc | apply Kd.V_drewN | apply Kd.V_drew)); exact HO_0.out) gb136 (Nat.le_of_eq hg.symm)) hb); have n1_ := Aside0.mk (Kd.R_below (by (with_reducible repeat (first | apply Kd.R_alloc | apply Kd.R_drewN | apply Kd.R_drew)); exact HO_6.out) hb); have n2_ := Aside0.mk (bst_ hb); have n3_ := Aside0.mk (hbox); have n4_ := Aside0.mk ((by rw [hg]; exact bsz_ : w.heap.size ≤ gb136)); have n5_ := n4_; clear HO_0; clear HO_6; clear HB; have HO_0 := n0_; have HO_6 := n1_; have HB := n2_; have BK136 := n3_; have GW136 := n4_; have GE136 := n5_; clear n0_ n1_ n2_ n3_ n4_ n5_; clear hb hbox hg; have hcz28_0 : w27.cell? ⟨gb136, 0, none⟩ = some (.int .i64 0) := (blk_cell BK136.out 0).trans rfl; have hcz28_1 : w27.cell? ⟨gb136, 1, none⟩ = some (.int .i64 0) := (blk_cell BK136.out 1).trans rfl; have hfz28_0 := blk_frozen BK136.out 0; have hfz28_1 := blk_frozen BK136.out 1) | ((with_reducible refine gate_callee (f := 56) rfl ?_); refine goesL_ (some 28) rfl rfl Try.func56 (by kernel_rfl) rfl #[.slice A0 l0.length c0, .int .i64 ((rd_T77 l1 x21_2).f0)] rfl (by (try simp only [List.map_toArray, List.map_cons, List.map_nil]); first | done | rfl) ?_; (with_reducible refine (heap_there.calls _ _ l0 ((rd_T77 l1 x21_2).f0) false _ ?side1 ?side2 A16.out).mono ?_); (case side1 => refine (Kd.V_reads' (e := 66) (base := w.heap.size) (ok := fun k_ => ((((P0_ k_ ∨ w.heap.size ≤ k_)) ∧ some k_ ≠ (v133 : Value).ownBlock) ∧ k_ ≠ gb136)) (n := l0.length) (c := c0) ?_).2.2; exact (by (with_reducible repeat (first | apply Kd.V_alloc | apply Kd.V_drewN | apply Kd.V_drew)); exact (Kd.V_mono (Kd.V_far (p := ⟨gb136, 1, none⟩) (Kd.V_far (p := ⟨gb136, 0, none⟩) (Kd.V_mono HO_0.out (fun k_ hk => (⟨hk, hk.2⟩ : _ ∧ k_ ≠ gb136))) (fun _ hk => hk.2) (.int .i64 ((rd_T77 l1 x21_2).f0))) (fun _ hk => hk.2) (.int .i64 ((rd_T77 l1 x21_2).f1))) (fun _ h_ => h_.1)))); (case side2 => exact (Kd.V_reads' HO_0.out).2.1); rintro e w' ⟨rfl, ⟨nd, rfl⟩⟩; refine ⟨_, rfl, ?_⟩))
               go_ret2
               exact ⟨_, by first | rfl | (simp [errW_none, errW_some] <;> rfl) | (simp [*, errW_none, errW_some] <;> rfl), by (with_reducible repeat (first | apply Kd.V_alloc | apply Kd.V_drewN | apply Kd.V_drew)); exact Kd.V_mono (Kd.V_far (p := ⟨gb136, 1, none⟩) (Kd.V_far (p := ⟨gb136, 0, none⟩) (Kd.V_mono HO_0.out (fun k_ hk => (⟨hk, hk.2⟩ : _ ∧ k_ ≠ gb136))) (fun _ hk => hk.2) (.int .i64 ((rd_T77 l1 x21_2).f0))) (fun _ hk => hk.2) (.int .i64 ((rd_T77 l1 x21_2).f1))) (fun _ hk => hk.1.1.1), by repeat (with_reducible first | exact HB.out | apply below_alloc | apply pw_below_drewN | apply below_drew1 | refine below_set ?_ GE136.out)⟩
           · rw [if_neg c15] at H
             exact absurd H (by simp)
         · rw [if_neg c14] at H
           exact absurd H (by simp)
       · rw [if_neg c13] at H
         have c13b0 : decide (x21_2 < (l1.length : Int)) = false := decide_eq_false c13
         clear c13
         simp only [Option.some.injEq, Prod.mk.injEq] at H
         obtain ⟨rfl, rfl⟩ := H
         go_wp2
         go_ret2
         exact ⟨_, by first | rfl | (simp [errW_none, errW_some] <;> rfl) | (simp [*, errW_none, errW_some] <;> rfl), Kd.V_mono (Kd.R_V (by (with_reducible repeat (first | apply Kd.R_alloc | apply Kd.R_drewN | apply Kd.R_drew)); exact HO_6.out)) (fun k_ hk => by first | exact ⟨(.inr (hk.1)), hk.2⟩ | exact (.inr (hk))), by repeat (with_reducible first | exact HB.out | apply below_alloc | apply pw_below_drewN | apply below_drew1)⟩

/-! ### slices_Clone_62: function 62 -/
def slices_Clone_62.f (l0 : List (S80)) : Option ((List (S80))) := (some (([] : List (S80)) : List (S80))).bind fun y139 => (if y139.length + l0.length < 4398046511104 then (some (y139 ++ l0)) else (none))
set_option maxHeartbeats 8000000 in
set_option maxRecDepth 100000 in
theorem slices_Clone_62.callsN (P0_ : Nat → Prop) (A0 : Option Addr) (c0 : Nat) (l0 : List (S80)) (r : List (S80)) (w : World) (hs0 : Kd.V k80 80 w w.heap.size (fun k_ => P0_ k_) (.slice A0 l0.length c0) l0) (h : slices_Clone_62.f l0 = some r) (hnn : A0.isNone = false) :
 Calls Try.prog 62 #[.slice A0 l0.length c0] w fun e w' => ∃ v0_ : Value, e = .returned (v0_) ∧ Kd.N k80 80 w' w.heap.size (fun k_ => (P0_ k_ ∨ w.heap.size ≤ k_)) v0_ r ∧ Below w.heap.size w w' := by
 have heql : ∀ W : World, (binOp .eql 69 (.slice A0 l0.length c0) (.slice none 0 0)).run Try.prog W = .ok (.bool false) W := fun W => by rw [Lib.run_eql_slice_nil W 69 80 A0 l0.length c0 0 0 Try.underlying69]; rw [hnn]
 clear hnn
 have HO0 := Aside0.mk (show Kd.V k80 80 w w.heap.size (fun k_ => (P0_ k_ ∨ w.heap.size ≤ k_)) (.slice A0 l0.length c0) l0 from Kd.V_mono hs0 (fun k_ hk => .inl hk))
 have HB := Aside0.mk (Below.refl w.heap.size w)
 have H : ((some (([] : List (S80)) : List (S80))).bind fun y139 => (if y139.length + l0.length < 4398046511104 then (some (y139 ++ l0)) else (none))) = some r := h
 clear h
 obtain ⟨y139, hy139⟩ : ∃ y_ : List (S80), y_ = (([] : List (S80))) := ⟨_, rfl⟩
 replace H : (if y139.length + l0.length < 4398046511104 then (some (y139 ++ l0)) else (none)) = some r := by first | (rw [hy139]; with_reducible exact H) | (have H2_ := (Option.bind_some _ _).symm.trans H; rw [hy139]; with_reducible exact H2_) | (have H2_ := (Option.bind_some _ _).symm.trans H; with_reducible exact H2_) | with_reducible exact H | (rw [hy139]; exact H) | exact H
 have Ny139 := Aside0.mk hy139
 clear hy139
 by_cases c2 : y139.length + l0.length < 4398046511104
 · rw [if_pos c2] at H
   have LMc2 := Aside0.mk c2
   clear c2
   obtain ⟨y142, hy142⟩ : ∃ y_ : List (S80), y_ = (y139 ++ l0) := ⟨_, rfl⟩
   replace H : (some y142) = some r := by first | (rw [hy142]; with_reducible exact H) | (have H2_ := (Option.bind_some _ _).symm.trans H; rw [hy142]; with_reducible exact H2_) | (have H2_ := (Option.bind_some _ _).symm.trans H; with_reducible exact H2_) | with_reducible exact H | (rw [hy142]; exact H) | exact H
   have Ny142 := Aside0.mk hy142
   clear hy142
   obtain rfl := Option.some.inj H
   go_enter Try.func62, Try.ntmps62
   go_wp2_with (first | ((with_reducible refine gate_dst (N := 5) rfl ?_); refine Kd.N_lit k80 _ 80 ?hg (N' := 5) ?hd (xs := ([] : List (S80))) (inner := []) (ok := (fun k_ => (P0_ k_ ∨ w.heap.size ≤ k_))) (okp := (fun k_ => (P0_ k_ ∨ w.heap.size ≤ k_))) ?hr ?hp (fun _ hk => hk) ((show ∀ k_, w.heap.size ≤ k_ → (fun k_ => (P0_ k_ ∨ w.heap.size ≤ k_)) k_ from fun k_ hk => (.inr (Nat.le_trans bsz_ hk))) _ (Nat.le_refl _)) (Below.refl _ _) (Nat.le_refl _) (by simp) ?_; (case hd => rfl); (case hg => rfl); (case hr => first | (go_simp; done) | (go_simp; rfl)); (case hp => exact (Reps.none _ _)); intro v140 w3 ho4 hb hg_ hnew_; clear hg_ hnew_; (first | rw [← Ny139.out] at ho4 | (simp only [Int.reduceToNat] at ho4; rw [← Ny139.out] at ho4)); have n0_ := Aside0.mk (Kd.V_elder' (by (with_reducible repeat (first | apply Kd.V_alloc | apply Kd.V_drewN | apply Kd.V_drew)); exact HO0.out) (Kd.N_base ho4) hb); have n1_ := Aside0.mk (Kd.N_lower ho4 bsz_); have n2_ := Aside0.mk (bst_ hb); clear HO0; clear HB; have HO0 := n0_; have HO141 := n1_; have HB := n2_; clear n0_ n1_ n2_; clear hb ho4) | ((with_reducible refine gate_builtin (b := .append) (xs := #[.tmp 5, .tmp 6]) rfl ?_); at_builtin; refine Kd.N_append_rows k80 (w0 := w) w.heap.size rfl (.tmp 5) (.tmp 6) 69 80 (.agg #[(.int .i64 0), (.slice none 0 0)]) 32 rfl Try.underlying69 info80 rfl (by decide) (by omega) v140 y139 l0 _ _ _ (fun k_ => (P0_ k_ ∨ w.heap.size ≤ k_)) (fun k_ => ((fun k_ => (P0_ k_ ∨ w.heap.size ≤ k_))) k_ ∧ some k_ ≠ (v140 : Value).ownBlock) rfl rfl ?aO ?aR (fun _ hk => hk) ?aF ?aB ?aS ?aL ?_; (case aR => exact (by skip; exact Kd.V_F (Kd.V_mono (ok' := (fun k_ => ((fun k_ => (P0_ k_ ∨ w.heap.size ≤ k_))) k_ ∧ some k_ ≠ (v140 : Value).ownBlock)) (HO0.out) (fun k_ hk => ⟨hk.1, hk.2⟩)))); (case aB => exact (by repeat (with_reducible first | exact HB.out | apply below_alloc | apply pw_below_drewN | apply below_drew1))); (case aF => exact (fun k_ hk => (.inr (Nat.le_trans bsz_ hk)))); (case aO => exact (by (with_reducible repeat (first | apply Kd.N_alloc | apply Kd.N_drewN | apply Kd.N_drew)); exact HO141.out)); (case aS => exact bsz_); (case aL => have := LMc2.out; omega); intro v143 w5 ho hb hg hat; rw [← Ny142.out] at ho; have n0_ := Aside0.mk (Kd.V_afterv (ok := (fun k_ => (P0_ k_ ∨ w.heap.size ≤ k_))) (by (with_reducible repeat (first | apply Kd.V_alloc | apply Kd.V_drewN | apply Kd.V_drew)); exact HO0.out) hg hat); have n1_ := Aside0.mk (hb); have n2_ := Aside0.mk (ho); clear HO0; clear HB; clear HO141; have HO0 := n0_; have HB := n1_; have HO144 := n2_; clear n0_ n1_ n2_; clear ho hb hg hat))
   go_ret
   exact ⟨_, by first | rfl | (simp [errW_none, errW_some] <;> rfl) | (simp [*, errW_none, errW_some] <;> rfl), by (with_reducible repeat (first | apply Kd.N_alloc | apply Kd.N_drewN | apply Kd.N_drew)); exact HO144.out, by repeat (with_reducible first | exact HB.out | apply below_alloc | apply pw_below_drewN | apply below_drew1)⟩
 · rw [if_neg c2] at H
   exact absurd H (by simp)

set_option maxHeartbeats 2000000 in
theorem slices_Clone_62.calls (P0_ : Nat → Prop) (A0 : Option Addr) (c0 : Nat) (l0 : List (S80)) (r : List (S80)) (w : World) (hs0 : Kd.V k80 80 w w.heap.size (fun k_ => P0_ k_) (.slice A0 l0.length c0) l0) (h : slices_Clone_62.f l0 = some r) :
 Calls Try.prog 62 #[.slice A0 l0.length c0] w fun e w' => ∃ v0_ : Value, e = .returned (v0_) ∧ Kd.N k80 80 w' w.heap.size (fun k_ => (P0_ k_ ∨ w.heap.size ≤ k_)) v0_ r ∧ Below w.heap.size w w' := by
 cases hA : A0 with
 | some ad => subst hA; exact slices_Clone_62.callsN P0_ (some ad) c0 l0 r w hs0 h rfl
 | none =>
  subst hA
  obtain rfl : l0 = [] := by
   rcases Nat.eq_zero_or_pos l0.length with h0 | h0
   · exact List.length_eq_zero_iff.1 h0
   · obtain ⟨ad, c, e0, _⟩ := Kd.C_get (Kd.V_reads' hs0).2.2 z80 0 (by omega) (by omega)
     cases e0
  obtain rfl : [] = r := by simpa [slices_Clone_62.f] using h
  have heql : ∀ W : World, (binOp .eql 69 (.slice none 0 c0) (.slice none 0 0)).run Try.prog W = .ok (.bool true) W := fun W => by rw [Lib.run_eql_slice_nil W 69 80 none 0 c0 0 0 Try.underlying69]; rfl
  clear hs0 h
  simp only [List.length_nil]
  go_enter Try.func62, Try.ntmps62
  go_wp2
  go_ret
  exact ⟨_, rfl, by first | exact Kd.R_nil _ _ _ _ _ | exact Kd.N_nil _ _ _ _ _ | exact Kd.V_nil _ _ _ _ _, Below.refl _ _⟩

/-! ### opaque_Next: function 32 -/
def opaque_Next.j0 : Nat → List (S80) → Int → List (S77) → Bool → Option ((List (S80)) × Int)
 | 0, _, _, _, _ => none
 | k + 1, x0, x1, x2, x28 => if x28 = true then (some (x0, 1)) else (if 0 ≤ (wrap64 ((x0.length : Int) - 1)) then (if (wrap64 ((x0.length : Int) - 1)) < (x0.length : Int) then ((heap_Put.f k ((rd_T80 x0 (wrap64 ((x0.length : Int) - 1))).f1) x2).bind fun bt149 => (if bt149.2 = 0 then ((slices_Clone_62.f x0).bind fun t153 => (if t153.length < 4398046511104 then (some ((t153 ++ [(⟨x1, bt149.1⟩ : S80)]), 0)) else (none))) else (some (x0, bt149.2)))) else (none)) else (none))
def opaque_Next.f (k : Nat) (l0 : List (S80)) (a1 : Int) (l2 : List (S77)) : Option ((List (S80)) × Int) := (opaque_Right.f k l0).bind fun t145 => (if t145 = true then ((tick_Right.f a1).bind fun t146 => (if t146 = true then (if 0 ≤ (wrap64 ((l0.length : Int) - 1)) then (if (wrap64 ((l0.length : Int) - 1)) < (l0.length : Int) then (opaque_Next.j0 k l0 a1 l2 (decide (((rd_T80 l0 (wrap64 ((l0.length : Int) - 1))).f0) ≥ a1))) else (none)) else (none)) else (opaque_Next.j0 k l0 a1 l2 true))) else (opaque_Next.j0 k l0 a1 l2 true))
theorem opaque_Next.mono_l : ∀ k, (∀ y0 y1 y2 y3, LeO (opaque_Next.j0 k y0 y1 y2 y3) (opaque_Next.j0 (k + 1) y0 y1 y2 y3))
 | 0 => fun _ _ _ _ r h => by simp [opaque_Next.j0] at h
 | k + 1 => by
  have ih0 := opaque_Next.mono_l k
  · intro y0 y1 y2 y3
    unfold opaque_Next.j0
    repeat' first
    | (with_reducible exact ih0 _ _ _ _)
    | (with_reducible exact heap_Put.mono _ _ _)
    | (with_reducible exact opaque_Right.mono _ _)
    | (with_reducible exact LeO.refl _)
    | (with_reducible exact LeO.none _)
    | (with_reducible refine LeO.ite ?_ ?_)
    | (with_reducible refine LeO.bind ?_ (fun _ => ?_))
    | exact ih0 _ _ _ _
    | exact heap_Put.mono _ _ _
    | exact opaque_Right.mono _ _
    | exact LeO.none _
    | refine LeO.ite ?_ ?_
    | refine LeO.bind ?_ (fun _ => ?_)
theorem opaque_Next.mono : ∀ a0 a1 a2 k, LeO (opaque_Next.f k a0 a1 a2) (opaque_Next.f (k + 1) a0 a1 a2) := by
 intro a0 a1 a2 k
 have ih0 := opaque_Next.mono_l k
 unfold opaque_Next.f
 repeat' first
  | (with_reducible exact ih0 _ _ _ _)
  | (with_reducible exact heap_Put.mono _ _ _)
  | (with_reducible exact opaque_Right.mono _ _)
  | (with_reducible exact LeO.refl _)
  | (with_reducible exact LeO.none _)
  | (with_reducible refine LeO.ite ?_ ?_)
  | (with_reducible refine LeO.bind ?_ (fun _ => ?_))
  | exact ih0 _ _ _ _
  | exact heap_Put.mono _ _ _
  | exact opaque_Right.mono _ _
  | exact LeO.none _
  | refine LeO.ite ?_ ?_
  | refine LeO.bind ?_ (fun _ => ?_)
set_option maxHeartbeats 8000000 in
set_option maxRecDepth 100000 in
theorem opaque_Next.calls (k : Nat) (P0_ : Nat → Prop) (A0 : Option Addr) (c0 : Nat) (l0 : List (S80)) (a1 : Int) (A2 : Option Addr) (c2 : Nat) (l2 : List (S77)) (r1 : List (S80)) (r2 : Int) (w : World) (hs0 : Kd.V k80 80 w w.heap.size (fun k_ => P0_ k_) (.slice A0 l0.length c0) l0) (hr2 : Kd.C k77 w A2 l2.length l2) (hc2 : l2.length ≤ c2) (h : opaque_Next.f k l0 a1 l2 = some (r1, r2)) :
 Calls Try.prog 32 #[.slice A0 l0.length c0, .int .i64 a1, .slice A2 l2.length c2] w fun e w' => ∃ v0_ : Value, e = .returned (.tuple #[v0_, .int .i64 r2]) ∧ Kd.V k80 80 w' w.heap.size (fun k_ => (P0_ k_ ∨ w.heap.size ≤ k_)) v0_ r1 ∧ Below w.heap.size w w' := by
 have hu80 := Try.underlying80
 have HO0 := Aside0.mk (show Kd.V k80 80 w w.heap.size (fun k_ => (P0_ k_ ∨ w.heap.size ≤ k_)) (.slice A0 l0.length c0) l0 from Kd.V_mono hs0 (fun k_ hk => .inl hk))
 have HR2 := Aside0.mk hr2
 have HC2 := Aside0.mk hc2
 clear hr2 hc2
 have HB := Aside0.mk (Below.refl w.heap.size w)
 have H : ((opaque_Right.f k l0).bind fun t145 => (if t145 = true then ((tick_Right.f a1).bind fun t146 => (if t146 = true then (if 0 ≤ (wrap64 ((l0.length : Int) - 1)) then (if (wrap64 ((l0.length : Int) - 1)) < (l0.length : Int) then (opaque_Next.j0 k l0 a1 l2 (decide (((rd_T80 l0 (wrap64 ((l0.length : Int) - 1))).f0) ≥ a1))) else (none)) else (none)) else (opaque_Next.j0 k l0 a1 l2 true))) else (opaque_Next.j0 k l0 a1 l2 true))) = some (r1, r2) := h
 clear h
 have HC4 := Aside0.mk H
 clear H
 go_enter Try.func32, Try.ntmps32
 go_upto_region 1 with (fail)
 go_cut [28] (fun v28 wc => ∃ (kq : Nat) (x28_3 : Bool), v28 = .bool x28_3 ∧ Aside0 (opaque_Next.j0 kq l0 a1 l2 x28_3 = some (r1, r2)) ∧ Aside0 (kq ≤ k) ∧ Aside0 (Kd.V k80 80 wc w.heap.size (fun k_ => (P0_ k_ ∨ w.heap.size ≤ k_)) (.slice A0 l0.length c0) l0) ∧ Aside0 (Below w.heap.size w wc))
 case first =>
  have H := HC4.out
  clear HC4
  replace H := Option.bind_eq_some_iff.mp H
  obtain ⟨t145, A50, H⟩ := H
  replace H : (if t145 = true then ((tick_Right.f a1).bind fun t146 => (if t146 = true then (if 0 ≤ (wrap64 ((l0.length : Int) - 1)) then (if (wrap64 ((l0.length : Int) - 1)) < (l0.length : Int) then (opaque_Next.j0 k l0 a1 l2 (decide (((rd_T80 l0 (wrap64 ((l0.length : Int) - 1))).f0) ≥ a1))) else (none)) else (none)) else (opaque_Next.j0 k l0 a1 l2 true))) else (opaque_Next.j0 k l0 a1 l2 true)) = some (r1, r2) := H
  have A5 := Aside0.mk A50
  clear A50
  by_cases c6 : t145 = true
  · subst c6
    have H1 : ((tick_Right.f a1).bind fun t146 => (if t146 = true then (if 0 ≤ (wrap64 ((l0.length : Int) - 1)) then (if (wrap64 ((l0.length : Int) - 1)) < (l0.length : Int) then (opaque_Next.j0 k l0 a1 l2 (decide (((rd_T80 l0 (wrap64 ((l0.length : Int) - 1))).f0) ≥ a1))) else (none)) else (none)) else (opaque_Next.j0 k l0 a1 l2 true))) = some (r1, r2) := by rw [if_pos rfl] at H; exact H
    clear H
    have H := H1
    clear H1
    replace H := Option.bind_eq_some_iff.mp H
    obtain ⟨t146, A70, H⟩ := H
    replace H : (if t146 = true then (if 0 ≤ (wrap64 ((l0.length : Int) - 1)) then (if (wrap64 ((l0.length : Int) - 1)) < (l0.length : Int) then (opaque_Next.j0 k l0 a1 l2 (decide (((rd_T80 l0 (wrap64 ((l0.length : Int) - 1))).f0) ≥ a1))) else (none)) else (none)) else (opaque_Next.j0 k l0 a1 l2 true)) = some (r1, r2) := H
    have A7 := Aside0.mk A70
    clear A70
    by_cases c8 : t146 = true
    · subst c8
      have H1 : (if 0 ≤ (wrap64 ((l0.length : Int) - 1)) then (if (wrap64 ((l0.length : Int) - 1)) < (l0.length : Int) then (opaque_Next.j0 k l0 a1 l2 (decide (((rd_T80 l0 (wrap64 ((l0.length : Int) - 1))).f0) ≥ a1))) else (none)) else (none)) = some (r1, r2) := by rw [if_pos rfl] at H; exact H
      clear H
      have H := H1
      clear H1
      obtain ⟨ji9, hji9⟩ : ∃ j_ : Int, (wrap64 ((l0.length : Int) - 1)) = j_ := ⟨_, rfl⟩
      replace H : (if 0 ≤ (ji9) then (if (ji9) < (l0.length : Int) then (opaque_Next.j0 k l0 a1 l2 (decide (((rd_T80 l0 (ji9)).f0) ≥ a1))) else (none)) else (none)) = some (r1, r2) := by first | (rw [hji9] at H; exact H) | (simp only [hji9] at H ⊢; exact H)
      (try rw [hji9] at A5)
      (try rw [hji9] at A7)
      have hji9w : (IntKind.i64.wrap ((l0.length : Int) - 1)) = ji9 := (i64_w _).trans hji9
      by_cases c10 : 0 ≤ (ji9)
      · rw [if_pos c10] at H
        have c10b0 : decide (0 ≤ (ji9)) = true := decide_eq_true c10
        clear c10
        (first | rw [c10b0] | (simp only [i64_w, i32_w]; rw [c10b0]) | skip)
        by_cases c11 : (ji9) < (l0.length : Int)
        · rw [if_pos c11] at H
          have c11b0 : decide ((ji9) < (l0.length : Int)) = true := decide_eq_true c11
          clear c11
          have H' := Aside0.mk H
          clear H
          go_wp2_with (first | ((with_reducible refine gate_callee (f := 34) rfl ?_); refine goesL_ (some 11) rfl rfl Try.func34 (by kernel_rfl) rfl #[.slice A0 l0.length c0] rfl (by (try simp only [List.map_toArray, List.map_cons, List.map_nil]); first | done | rfl) ?_; (with_reducible refine (opaque_Right.calls k _ _ l0 true _ ?side1 ?side2 A5.out).mono ?_); (case side1 => repeat (first | exact (Kd.V_reads' HO0.out).2.2 | with_reducible first | refine Kd.C_alloc ?_ _ | refine Kd.C_drewN ?_ _ | refine Kd.C_drew ?_)); (case side2 => exact (Kd.V_reads' HO0.out).2.1); rintro e w12 ⟨rfl, hb⟩; refine ⟨_, rfl, ?_⟩; have n0_ := Aside0.mk (Kd.V_below (by (with_reducible repeat (first | apply Kd.V_alloc | apply Kd.V_drewN | apply Kd.V_drew)); exact HO0.out) hb); have n1_ := Aside0.mk (bst_ hb); clear HO0; clear HB; have HO0 := n0_; have HB := n1_; clear n0_ n1_; (try clear hb); (try clear hb2); (try clear hk); (try clear hi)) | (go_at_call 60; (with_reducible refine (tick_Right.calls a1 true _ A7.out).mono ?_); rintro e w' ⟨rfl, ⟨nd, rfl⟩⟩; have p147 : 0 ≤ ((ji9) : Int) := of_decide_eq_true (by first | (with_reducible assumption) | assumption); have q147 : (ji9) < (l0.length : Int) := of_decide_eq_true (by first | (with_reducible assumption) | assumption); obtain ⟨ad147, A147_1, c147_1, e147, hx147_0, hx147_1, hl147_1, hi147_1⟩ := at_T80 (Kd.V_reads' HO0.out).2.2 (ji9) p147 q147; cases e147; obtain ⟨ce147, hce147, hMe147, hcc147⟩ := Kd.V_get HO0.out z80 (ji9) p147 (by first | exact q147 | exact of_decide_eq_true (by first | (with_reducible assumption) | assumption) | (have e_ := (Kd.V_reads' HO0.out).1; omega)); obtain ⟨ua147_1, uc147_1, rfl, ul147_1, ge147_1⟩ := k80_openF hMe147; have hv147_1 := hcc147 1 _ rfl; rw [add_field _ _ 1 (by omega)] at hv147_1; replace hv147_1 := Option.some.inj (hv147_1.symm.trans hx147_1); injection hv147_1 with hva_ hvn_ hvc_; rw [hva_] at ge147_1; rw [hvc_] at ul147_1; have HL147_1 := Aside0.mk (show Kd.V k66 66 _ w.heap.size _ _ ((rd_T80 l0 (ji9)).f1) from Kd.V_mk ul147_1 ge147_1); clear hva_ hvn_ hvc_ ge147_1 ul147_1; clear hcc147 hce147; have HR147_1 := Aside0.mk hi147_1; have HC147_1 := Aside0.mk hl147_1; clear hi147_1 hl147_1; replace p147 := eq_true p147; replace q147 := eq_true q147))
          go_meet
          case rel => exact ⟨_, (decide (((rd_T80 l0 (ji9)).f0) ≥ a1)), (by first | rfl | (simp; done) | (simp only [← hji9] <;> (first | rfl | simp)) | (simp [*]; done)), H', ⟨by first | omega | exact Nat.le_refl _⟩, ⟨by (with_reducible repeat (first | apply Kd.V_alloc | apply Kd.V_drewN | apply Kd.V_drew)); exact HO0.out⟩, ⟨by repeat (with_reducible first | exact HB.out | apply below_alloc | apply pw_below_drewN | apply below_drew1)⟩⟩
        · rw [if_neg c11] at H
          exact absurd H (by simp)
      · rw [if_neg c10] at H
        exact absurd H (by simp)
    · replace c8 := Bool.eq_false_iff.mpr c8
      subst c8
      have H1 : (opaque_Next.j0 k l0 a1 l2 true) = some (r1, r2) := by rw [if_neg (show ¬ (false = true) by decide)] at H; exact H
      clear H
      have H := H1
      clear H1
      have H' := Aside0.mk H
      clear H
      go_wp2_with (first | ((with_reducible refine gate_callee (f := 34) rfl ?_); refine goesL_ (some 11) rfl rfl Try.func34 (by kernel_rfl) rfl #[.slice A0 l0.length c0] rfl (by (try simp only [List.map_toArray, List.map_cons, List.map_nil]); first | done | rfl) ?_; (with_reducible refine (opaque_Right.calls k _ _ l0 true _ ?side1 ?side2 A5.out).mono ?_); (case side1 => repeat (first | exact (Kd.V_reads' HO0.out).2.2 | with_reducible first | refine Kd.C_alloc ?_ _ | refine Kd.C_drewN ?_ _ | refine Kd.C_drew ?_)); (case side2 => exact (Kd.V_reads' HO0.out).2.1); rintro e w13 ⟨rfl, hb⟩; refine ⟨_, rfl, ?_⟩; have n0_ := Aside0.mk (Kd.V_below (by (with_reducible repeat (first | apply Kd.V_alloc | apply Kd.V_drewN | apply Kd.V_drew)); exact HO0.out) hb); have n1_ := Aside0.mk (bst_ hb); clear HO0; clear HB; have HO0 := n0_; have HB := n1_; clear n0_ n1_; (try clear hb); (try clear hb2); (try clear hk); (try clear hi)) | (go_at_call 60; (with_reducible refine (tick_Right.calls a1 false _ A7.out).mono ?_); rintro e w' ⟨rfl, ⟨nd, rfl⟩⟩))
      go_meet
      case rel => exact ⟨_, (true), (by first | rfl | (simp; done) | (simp [*]; done)), H', ⟨by first | omega | exact Nat.le_refl _⟩, ⟨by (with_reducible repeat (first | apply Kd.V_alloc | apply Kd.V_drewN | apply Kd.V_drew)); exact HO0.out⟩, ⟨by repeat (with_reducible first | exact HB.out | apply below_alloc | apply pw_below_drewN | apply below_drew1)⟩⟩
  · replace c6 := Bool.eq_false_iff.mpr c6
    subst c6
    have H1 : (opaque_Next.j0 k l0 a1 l2 true) = some (r1, r2) := by rw [if_neg (show ¬ (false = true) by decide)] at H; exact H
    clear H
    have H := H1
    clear H1
    have H' := Aside0.mk H
    clear H
    go_wp2_with (first | ((with_reducible refine gate_callee (f := 34) rfl ?_); refine goesL_ (some 11) rfl rfl Try.func34 (by kernel_rfl) rfl #[.slice A0 l0.length c0] rfl (by (try simp only [List.map_toArray, List.map_cons, List.map_nil]); first | done | rfl) ?_; (with_reducible refine (opaque_Right.calls k _ _ l0 false _ ?side1 ?side2 A5.out).mono ?_); (case side1 => repeat (first | exact (Kd.V_reads' HO0.out).2.2 | with_reducible first | refine Kd.C_alloc ?_ _ | refine Kd.C_drewN ?_ _ | refine Kd.C_drew ?_)); (case side2 => exact (Kd.V_reads' HO0.out).2.1); rintro e w14 ⟨rfl, hb⟩; refine ⟨_, rfl, ?_⟩; have n0_ := Aside0.mk (Kd.V_below (by (with_reducible repeat (first | apply Kd.V_alloc | apply Kd.V_drewN | apply Kd.V_drew)); exact HO0.out) hb); have n1_ := Aside0.mk (bst_ hb); clear HO0; clear HB; have HO0 := n0_; have HB := n1_; clear n0_ n1_; (try clear hb); (try clear hb2); (try clear hk); (try clear hi)))
    go_meet
    case rel => exact ⟨_, (true), (by first | rfl | (simp; done) | (simp [*]; done)), H', ⟨by first | omega | exact Nat.le_refl _⟩, ⟨by (with_reducible repeat (first | apply Kd.V_alloc | apply Kd.V_drewN | apply Kd.V_drew)); exact HO0.out⟩, ⟨by repeat (with_reducible first | exact HB.out | apply below_alloc | apply pw_below_drewN | apply below_drew1)⟩⟩
 case rest =>
  clear HC4
  try clear c1
  try clear p1
  try clear q1
  try clear hx1
  try clear c2
  try clear p2
  try clear c3
  try clear c6
  try clear p6
  try clear c8
  try clear c10
  try clear c10b0
  try clear c11
  try clear c11b0
  try clear c14
  try clear p14
  try clear q14
  try clear hx14
  try clear hx147_0
  try clear hx147_1
  try clear p147
  try clear q147
  obtain ⟨kq, x28_3, rfl, HA, HJ3, HO_0, HB⟩ := hcut
  cases kq with
  | zero => exact absurd HA.out (by simp [opaque_Next.j0])
  | succ kj3 =>
   have H := HA.out
   clear HA
   simp only [opaque_Next.j0] at H
   by_cases c15 : x28_3 = true
   · subst c15
     have H1 : (some (l0, 1)) = some (r1, r2) := by rw [if_pos rfl] at H; exact H
     clear H
     have H := H1
     clear H1
     simp only [Option.some.injEq, Prod.mk.injEq] at H
     obtain ⟨rfl, rfl⟩ := H
     go_wp2
     go_ret2
     exact ⟨_, by first | rfl | (simp [errW_none, errW_some] <;> rfl) | (simp [*, errW_none, errW_some] <;> rfl), by (with_reducible repeat (first | apply Kd.V_alloc | apply Kd.V_drewN | apply Kd.V_drew)); exact HO_0.out, by repeat (with_reducible first | exact HB.out | apply below_alloc | apply pw_below_drewN | apply below_drew1)⟩
   · replace c15 := Bool.eq_false_iff.mpr c15
     subst c15
     have H1 : (if 0 ≤ (wrap64 ((l0.length : Int) - 1)) then (if (wrap64 ((l0.length : Int) - 1)) < (l0.length : Int) then ((heap_Put.f kj3 ((rd_T80 l0 (wrap64 ((l0.length : Int) - 1))).f1) l2).bind fun bt149 => (if bt149.2 = 0 then ((slices_Clone_62.f l0).bind fun t153 => (if t153.length < 4398046511104 then (some ((t153 ++ [(⟨a1, bt149.1⟩ : S80)]), 0)) else (none))) else (some (l0, bt149.2)))) else (none)) else (none)) = some (r1, r2) := by rw [if_neg (show ¬ (false = true) by decide)] at H; exact H
     clear H
     have H := H1
     clear H1
     obtain ⟨ji16, hji16⟩ : ∃ j_ : Int, (wrap64 ((l0.length : Int) - 1)) = j_ := ⟨_, rfl⟩
     replace H : (if 0 ≤ (ji16) then (if (ji16) < (l0.length : Int) then ((heap_Put.f kj3 ((rd_T80 l0 (ji16)).f1) l2).bind fun bt149 => (if bt149.2 = 0 then ((slices_Clone_62.f l0).bind fun t153 => (if t153.length < 4398046511104 then (some ((t153 ++ [(⟨a1, bt149.1⟩ : S80)]), 0)) else (none))) else (some (l0, bt149.2)))) else (none)) else (none)) = some (r1, r2) := by first | (rw [hji16] at H; exact H) | (simp only [hji16] at H ⊢; exact H)
     have hji16w : (IntKind.i64.wrap ((l0.length : Int) - 1)) = ji16 := (i64_w _).trans hji16
     by_cases c17 : 0 ≤ (ji16)
     · rw [if_pos c17] at H
       have c17b0 : decide (0 ≤ (ji16)) = true := decide_eq_true c17
       clear c17
       by_cases c18 : (ji16) < (l0.length : Int)
       · rw [if_pos c18] at H
         have c18b0 : decide ((ji16) < (l0.length : Int)) = true := decide_eq_true c18
         clear c18
         replace H := Option.bind_eq_some_iff.mp H
         obtain ⟨⟨t149, t152⟩, A190, H⟩ := H
         replace H : (if t152 = 0 then ((slices_Clone_62.f l0).bind fun t153 => (if t153.length < 4398046511104 then (some ((t153 ++ [(⟨a1, t149⟩ : S80)]), 0)) else (none))) else (some (l0, t152))) = some (r1, r2) := H
         have A19 := Aside0.mk A190
         clear A190
         by_cases c20 : t152 = 0
         · rw [if_pos c20] at H
           have c20b0 : (t152 == 0) = true := beq_iff_eq.mpr c20
           have c20b1 : (t152 != 0) = false := bne_eq_false_iff_eq.mpr c20
           clear c20
           replace H := Option.bind_eq_some_iff.mp H
           obtain ⟨t153, A210, H⟩ := H
           replace H : (if t153.length < 4398046511104 then (some ((t153 ++ [(⟨a1, t149⟩ : S80)]), 0)) else (none)) = some (r1, r2) := H
           have A21 := Aside0.mk A210
           clear A210
           by_cases c22 : t153.length < 4398046511104
           · rw [if_pos c22] at H
             have LMc22 := Aside0.mk c22
             clear c22
             obtain ⟨y156, hy156⟩ : ∃ y_ : List (S80), y_ = (t153 ++ [(⟨a1, t149⟩ : S80)]) := ⟨_, rfl⟩
             replace H : (some (y156, 0)) = some (r1, r2) := by first | (rw [hy156]; with_reducible exact H) | (have H2_ := (Option.bind_some _ _).symm.trans H; rw [hy156]; with_reducible exact H2_) | (have H2_ := (Option.bind_some _ _).symm.trans H; with_reducible exact H2_) | with_reducible exact H | (rw [hy156]; exact H) | exact H
             have Ny156 := Aside0.mk hy156
             clear hy156
             simp only [Option.some.injEq, Prod.mk.injEq] at H
             obtain ⟨rfl, rfl⟩ := H
             have p148 : 0 ≤ ((ji16) : Int) := of_decide_eq_true (by first | (with_reducible assumption) | assumption)
             have q148 : (ji16) < (l0.length : Int) := of_decide_eq_true (by first | (with_reducible assumption) | assumption)
             obtain ⟨ad148, A148_1, c148_1, e148, hx148_0, hx148_1, hl148_1, hi148_1⟩ := at_T80 (Kd.V_reads' HO_0.out).2.2 (ji16) p148 q148
             cases e148
             obtain ⟨ce148, hce148, hMe148, hcc148⟩ := Kd.V_get HO_0.out z80 (ji16) p148 (by first | exact q148 | exact of_decide_eq_true (by first | (with_reducible assumption) | assumption) | (have e_ := (Kd.V_reads' HO_0.out).1; omega))
             obtain ⟨ua148_1, uc148_1, rfl, ul148_1, ge148_1⟩ := k80_openF hMe148
             have hv148_1 := hcc148 1 _ rfl
             rw [add_field _ _ 1 (by omega)] at hv148_1
             replace hv148_1 := Option.some.inj (hv148_1.symm.trans hx148_1)
             injection hv148_1 with hva_ hvn_ hvc_
             rw [hva_] at ge148_1
             rw [hvc_] at ul148_1
             have HL148_1 := Aside0.mk (show Kd.V k66 66 _ w.heap.size _ _ ((rd_T80 l0 (ji16)).f1) from Kd.V_mk ul148_1 ge148_1)
             clear hva_ hvn_ hvc_ ge148_1 ul148_1
             clear hcc148 hce148
             have HR148_1 := Aside0.mk hi148_1
             have HC148_1 := Aside0.mk hl148_1
             clear hi148_1 hl148_1
             replace p148 := eq_true p148
             replace q148 := eq_true q148
             go_wp2_with (first | ((with_reducible refine gate_callee (f := 61) rfl ?_); refine goesL_ (some 39) rfl rfl Try.func61 (by kernel_rfl) rfl #[.slice A148_1 ((rd_T80 l0 (ji16)).f1).length c148_1, .slice A2 l2.length c2] rfl (by (try simp only [List.map_toArray, List.map_cons, List.map_nil]); first | done | (simp only [hji16]; rfl) | rfl | (simp only [List.length_drop, List.length_take]; rfl)) ?_; (with_reducible refine (heap_Put.calls kj3 (fun k_ => (P0_ k_ ∨ w.heap.size ≤ k_)) _ _ ((rd_T80 l0 (ji16)).f1) _ _ l2 t149 t152 _ ?side1 ?side2 ?side3 A19.out).mono ?_); (case side1 => exact HL148_1.out); (case side2 => repeat (first | exact (Kd.C_below HR2.out HB.out) | with_reducible first | refine Kd.C_alloc ?_ _ | refine Kd.C_drewN ?_ _ | refine Kd.C_drew ?_)); (case side3 => exact HC2.out); rintro e w23 ⟨v150, rfl, ho0, hb⟩; refine ⟨_, rfl, ?_⟩; have n0_ := Aside0.mk (Kd.V_below (by (with_reducible repeat (first | apply Kd.V_alloc | apply Kd.V_drewN | apply Kd.V_drew)); exact HO_0.out) hb); have n1_ := Aside0.mk (Kd.V_below (by (with_reducible repeat (first | apply Kd.V_alloc | apply Kd.V_drewN | apply Kd.V_drew)); exact HL148_1.out) hb); have n2_ := Aside0.mk (Kd.V_lower (Kd.V_mono (ok' := fun k_ => (P0_ k_ ∨ w.heap.size ≤ k_)) ho0 (fun k_ hk_ => Or.elim hk_ (fun hs_ => hs_) (fun hn_ => (.inr (Nat.le_trans bsz_ hn_))))) bsz_); have n3_ := Aside0.mk (Kd.C_below (by repeat (first | (with_reducible exact HR148_1.out) | (with_reducible refine Kd.C_alloc ?_ _) | (with_reducible refine Kd.C_drewN ?_ _) | (with_reducible refine Kd.C_drew ?_) | exact HR148_1.out)) hb); have n4_ := Aside0.mk (bst_ hb); clear HO_0; clear HL148_1; clear HR148_1; clear HB; have HO_0 := n0_; have HL148_1 := n1_; have HO151 := n2_; have HR148_1 := n3_; have HB := n4_; clear n0_ n1_ n2_ n3_ n4_; (try clear hb); (try clear hb2); (try clear hk); (try clear hi); (try clear ho0)) | ((with_reducible refine gate_callee (f := 62) rfl ?_); refine goesL_ (some 47) rfl rfl Try.func62 (by kernel_rfl) rfl #[.slice (some ad148) l0.length c0] rfl (by (try simp only [List.map_toArray, List.map_cons, List.map_nil]); first | done | rfl) ?_; (with_reducible refine (slices_Clone_62.calls (fun k_ => (P0_ k_ ∨ w.heap.size ≤ k_)) _ _ l0 t153 _ ?side1 A21.out).mono ?_); (case side1 => exact HO_0.out); rintro e w24 ⟨v154, rfl, ho0, hb⟩; refine ⟨_, rfl, ?_⟩; have n0_ := Aside0.mk (Kd.V_elder' (by (with_reducible repeat (first | apply Kd.V_alloc | apply Kd.V_drewN | apply Kd.V_drew)); exact HO_0.out) (Kd.N_base ho0) hb); have n1_ := Aside0.mk (Kd.V_elder' (by (with_reducible repeat (first | apply Kd.V_alloc | apply Kd.V_drewN | apply Kd.V_drew)); exact HL148_1.out) (Kd.N_base ho0) hb); have n2_ := Aside0.mk (Kd.V_elder' (by (with_reducible repeat (first | apply Kd.V_alloc | apply Kd.V_drewN | apply Kd.V_drew)); exact HO151.out) (Kd.N_base ho0) hb); have n3_ := Aside0.mk (Kd.N_lower (Kd.N_mono (ok' := fun k_ => (P0_ k_ ∨ w.heap.size ≤ k_)) ho0 (fun k_ hk_ => Or.elim hk_ (fun hs_ => hs_) (fun hn_ => (.inr (Nat.le_trans bsz_ hn_))))) bsz_); have n4_ := Aside0.mk (Kd.C_below (by repeat (first | (with_reducible exact HR148_1.out) | (with_reducible refine Kd.C_alloc ?_ _) | (with_reducible refine Kd.C_drewN ?_ _) | (with_reducible refine Kd.C_drew ?_) | exact HR148_1.out)) hb); have n5_ := Aside0.mk (bst_ hb); clear HO_0; clear HL148_1; clear HO151; clear HR148_1; clear HB; have HO_0 := n0_; have HL148_1 := n1_; have HO151 := n2_; have HO155 := n3_; have HR148_1 := n4_; have HB := n5_; clear n0_ n1_ n2_ n3_ n4_ n5_; (try clear hb); (try clear hb2); (try clear hk); (try clear hi); (try clear ho0); obtain ⟨Ao25, co25, eo25⟩ := Kd.V_slice HO151.out; subst eo25) | ((with_reducible refine gate_builtin (b := .append) (xs := #[.tmp 47, .tmp 51]) rfl ?_); (try (refine gate_guard (by rfl) ?_; dsimp only)); at_builtin; refine Kd.N_append k80 (w0 := w) w.heap.size rfl (.tmp 47) (.tmp 51) 69 80 (.agg #[(.int .i64 0), (.slice none 0 0)]) 32 rfl Try.underlying69 info80 rfl (by decide) (by omega) v154 t153 (⟨a1, t149⟩ : S80) [.int .i64 a1, .slice Ao25 t149.length co25] (fun k_ => (P0_ k_ ∨ w.heap.size ≤ k_)) (fun k_ => ((fun k_ => (P0_ k_ ∨ w.heap.size ≤ k_))) k_ ∧ some k_ ≠ (v154 : Value).ownBlock) rfl rfl ?aP (fun _ hk => hk) ?aF ?aO ?aB ?aS ?aL ?_; (case aP => exact (k80_mkF _ _ (⟨a1, t149⟩ : S80) (Kd.V_reads' (Kd.V_mono (ok' := (fun k_ => ((fun k_ => (P0_ k_ ∨ w.heap.size ≤ k_))) k_ ∧ some k_ ≠ (v154 : Value).ownBlock)) (HO151.out) (fun k_ hk => ⟨hk.1, hk.2⟩))).2.1 (Kd.V_F (Kd.V_mono (ok' := (fun k_ => ((fun k_ => (P0_ k_ ∨ w.heap.size ≤ k_))) k_ ∧ some k_ ≠ (v154 : Value).ownBlock)) (HO151.out) (fun k_ hk => ⟨hk.1, hk.2⟩))))); (case aB => exact (by repeat (with_reducible first | exact HB.out | apply below_alloc | apply pw_below_drewN | apply below_drew1))); (case aF => exact (fun k_ hk => (.inr (Nat.le_trans bsz_ hk)))); (case aO => exact (by (with_reducible repeat (first | apply Kd.N_alloc | apply Kd.N_drewN | apply Kd.N_drew)); exact HO155.out)); (case aS => exact bsz_); (case aL => have := LMc22.out; omega); intro v157 w26 ho hb hg hat; rw [← Ny156.out] at ho; have n0_ := Aside0.mk (Kd.V_afterv (ok := (fun k_ => (P0_ k_ ∨ w.heap.size ≤ k_))) (by (with_reducible repeat (first | apply Kd.V_alloc | apply Kd.V_drewN | apply Kd.V_drew)); exact HO_0.out) hg hat); have n1_ := Aside0.mk (Kd.V_afterv (ok := (fun k_ => (P0_ k_ ∨ w.heap.size ≤ k_))) (by (with_reducible repeat (first | apply Kd.V_alloc | apply Kd.V_drewN | apply Kd.V_drew)); exact HL148_1.out) hg hat); have n2_ := Aside0.mk (Kd.V_afterv (ok := (fun k_ => (P0_ k_ ∨ w.heap.size ≤ k_))) (by (with_reducible repeat (first | apply Kd.V_alloc | apply Kd.V_drewN | apply Kd.V_drew)); exact HO151.out) hg hat); have n3_ := Aside0.mk (hb); have n4_ := Aside0.mk (ho); clear HO_0; clear HL148_1; clear HO151; clear HB; clear HO155; have HO_0 := n0_; have HL148_1 := n1_; have HO151 := n2_; have HB := n3_; have HO158 := n4_; clear n0_ n1_ n2_ n3_ n4_; clear ho hb hg hat))
             go_ret2
             exact ⟨_, by first | rfl | (simp [errW_none, errW_some] <;> rfl) | (simp only [← hji16]; first | rfl | (simp [errW_none, errW_some] <;> rfl)) | (simp [*, errW_none, errW_some] <;> rfl), Kd.N_V (by (with_reducible repeat (first | apply Kd.N_alloc | apply Kd.N_drewN | apply Kd.N_drew)); exact HO158.out), by repeat (with_reducible first | exact HB.out | apply below_alloc | apply pw_below_drewN | apply below_drew1)⟩
           · rw [if_neg c22] at H
             exact absurd H (by simp)
         · rw [if_neg c20] at H
           have c20b0 : (t152 == 0) = false := beq_eq_false_iff_ne.mpr c20
           have c20b1 : (t152 != 0) = true := bne_iff_ne.mpr c20
           simp only [Option.some.injEq, Prod.mk.injEq] at H
           obtain ⟨rfl, rfl⟩ := H
           have p148 : 0 ≤ ((ji16) : Int) := of_decide_eq_true (by first | (with_reducible assumption) | assumption)
           have q148 : (ji16) < (l0.length : Int) := of_decide_eq_true (by first | (with_reducible assumption) | assumption)
           obtain ⟨ad148, A148_1, c148_1, e148, hx148_0, hx148_1, hl148_1, hi148_1⟩ := at_T80 (Kd.V_reads' HO_0.out).2.2 (ji16) p148 q148
           cases e148
           obtain ⟨ce148, hce148, hMe148, hcc148⟩ := Kd.V_get HO_0.out z80 (ji16) p148 (by first | exact q148 | exact of_decide_eq_true (by first | (with_reducible assumption) | assumption) | (have e_ := (Kd.V_reads' HO_0.out).1; omega))
           obtain ⟨ua148_1, uc148_1, rfl, ul148_1, ge148_1⟩ := k80_openF hMe148
           have hv148_1 := hcc148 1 _ rfl
           rw [add_field _ _ 1 (by omega)] at hv148_1
           replace hv148_1 := Option.some.inj (hv148_1.symm.trans hx148_1)
           injection hv148_1 with hva_ hvn_ hvc_
           rw [hva_] at ge148_1
           rw [hvc_] at ul148_1
           have HL148_1 := Aside0.mk (show Kd.V k66 66 _ w.heap.size _ _ ((rd_T80 l0 (ji16)).f1) from Kd.V_mk ul148_1 ge148_1)
           clear hva_ hvn_ hvc_ ge148_1 ul148_1
           clear hcc148 hce148
           have HR148_1 := Aside0.mk hi148_1
           have HC148_1 := Aside0.mk hl148_1
           clear hi148_1 hl148_1
           replace p148 := eq_true p148
           replace q148 := eq_true q148
           go_wp2_with (first | ((with_reducible refine gate_callee (f := 61) rfl ?_); refine goesL_ (some 39) rfl rfl Try.func61 (by kernel_rfl) rfl #[.slice A148_1 ((rd_T80 l0 (ji16)).f1).length c148_1, .slice A2 l2.length c2] rfl (by (try simp only [List.map_toArray, List.map_cons, List.map_nil]); first | done | (simp only [hji16]; rfl) | rfl | (simp only [List.length_drop, List.length_take]; rfl)) ?_; (with_reducible refine (heap_Put.calls kj3 (fun k_ => (P0_ k_ ∨ w.heap.size ≤ k_)) _ _ ((rd_T80 l0 (ji16)).f1) _ _ l2 t149 t152 _ ?side1 ?side2 ?side3 A19.out).mono ?_); (case side1 => exact HL148_1.out); (case side2 => repeat (first | exact (Kd.C_below HR2.out HB.out) | with_reducible first | refine Kd.C_alloc ?_ _ | refine Kd.C_drewN ?_ _ | refine Kd.C_drew ?_)); (case side3 => exact HC2.out); rintro e w27 ⟨v150, rfl, ho0, hb⟩; refine ⟨_, rfl, ?_⟩; have n0_ := Aside0.mk (Kd.V_below (by (with_reducible repeat (first | apply Kd.V_alloc | apply Kd.V_drewN | apply Kd.V_drew)); exact HO_0.out) hb); have n1_ := Aside0.mk (Kd.V_below (by (with_reducible repeat (first | apply Kd.V_alloc | apply Kd.V_drewN | apply Kd.V_drew)); exact HL148_1.out) hb); have n2_ := Aside0.mk (Kd.V_lower (Kd.V_mono (ok' := fun k_ => (P0_ k_ ∨ w.heap.size ≤ k_)) ho0 (fun k_ hk_ => Or.elim hk_ (fun hs_ => hs_) (fun hn_ => (.inr (Nat.le_trans bsz_ hn_))))) bsz_); have n3_ := Aside0.mk (Kd.C_below (by repeat (first | (with_reducible exact HR148_1.out) | (with_reducible refine Kd.C_alloc ?_ _) | (with_reducible refine Kd.C_drewN ?_ _) | (with_reducible refine Kd.C_drew ?_) | exact HR148_1.out)) hb); have n4_ := Aside0.mk (bst_ hb); clear HO_0; clear HL148_1; clear HR148_1; clear HB; have HO_0 := n0_; have HL148_1 := n1_; have HO151 := n2_; have HR148_1 := n3_; have HB := n4_; clear n0_ n1_ n2_ n3_ n4_; (try clear hb); (try clear hb2); (try clear hk); (try clear hi); (try clear ho0)))
           go_ret2
           exact ⟨_, by first | rfl | (simp [errW_none, errW_some] <;> rfl) | (simp only [← hji16]; first | rfl | (simp [errW_none, errW_some] <;> rfl)) | (simp [*, errW_none, errW_some] <;> rfl), by (with_reducible repeat (first | apply Kd.V_alloc | apply Kd.V_drewN | apply Kd.V_drew)); exact HO_0.out, by repeat (with_reducible first | exact HB.out | apply below_alloc | apply pw_below_drewN | apply below_drew1)⟩
       · rw [if_neg c18] at H
         exact absurd H (by simp)
     · rw [if_neg c17] at H
       exact absurd H (by simp)

-- NOT PRINTED: function 63 (slices_BinarySearchFunc)

/-! ### cmp_isNaN: function 81 -/
def cmp_isNaN.f (a0 : Int) : Option (Bool) := some (a0 != a0)
set_option maxHeartbeats 8000000 in
set_option maxRecDepth 100000 in
theorem cmp_isNaN.calls (a0 : Int) (r : Bool) (w : World) (h : cmp_isNaN.f a0 = some r) :
 Calls Try.prog 81 #[.int .i64 a0] w fun e w' => e = .returned (.bool r) ∧ Drawn0 w w' := by
 have H : (some (a0 != a0)) = some r := h
 clear h
 obtain rfl := Option.some.inj H
 go_enter Try.func81, Try.ntmps81
 go_wp2
 go_ret
 exact ⟨by first | rfl | (simp; done) | (simp [*]; done), by repeat (first | exact Drawn0.refl _ | apply Drawn0.step)⟩

end Go.Proofs.Ytihcnbhcemkncaa.O
