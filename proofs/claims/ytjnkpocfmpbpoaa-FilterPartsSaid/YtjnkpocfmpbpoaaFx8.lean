-- PRINTED by print.py (a twelfth state) out of the translation. Not trusted: Lean checks it.
import Derived.Test.YtjnkpocfmpbpoaaFx0
import Derived.Test.YtjnkpocfmpbpoaaFx3
import Derived.Test.YtjnkpocfmpbpoaaFx6
import Derived.Test.YtjnkpocfmpbpoaaFx7
namespace Go.Proofs.Ytjnkpocfmpbpoaa.F
open Go.Proofs.Ytjnkpocfmpbpoaa.Ho
open Go.RowKit Go.Proofs.YtjnkpocfmpbpoaaW.PrintWords Go.Proofs.YtjnkpocfmpbpoaaW.PrintLast Go.Proofs.YtjnkpocfmpbpoaaW.PrintMore
attribute [local go_sem] max2_int min2_int max_two min_two max_three min_three max_four min_four   -- for this text's walks alone
set_option linter.unusedVariables false
set_option linter.unusedSimpArgs false

/-! ### sleep_Of_1: function 51 -/
def sleep_Of_1.f (k : Nat) (a0 : Int) (l1 : List Int) : Option (Bool) := (slices_Contains.f k l1 a0).bind fun t188 => (some t188)
theorem sleep_Of_1.mono : ∀ a0 a1 k, LeO (sleep_Of_1.f k a0 a1) (sleep_Of_1.f (k + 1) a0 a1) := by
 intro a0 a1 k
 unfold sleep_Of_1.f
 repeat' first
  | (with_reducible exact slices_Contains.mono _ _ _)
  | (with_reducible exact LeO.refl _)
  | (with_reducible exact LeO.none _)
  | (with_reducible refine LeO.ite ?_ ?_)
  | (with_reducible refine LeO.bind ?_ (fun _ => ?_))
  | exact slices_Contains.mono _ _ _
  | exact LeO.none _
  | refine LeO.ite ?_ ?_
  | refine LeO.bind ?_ (fun _ => ?_)
set_option maxHeartbeats 8000000 in
set_option maxRecDepth 100000 in
theorem sleep_Of_1.calls (k : Nat) (a0 : Int) (g1 : Nat) (A1 : Option Addr) (c1 : Nat) (l1 : List Int) (r : Bool) (w : World) (hr1 : Kd.C (Kd.int .i64) w A1 l1.length l1) (hc1 : l1.length ≤ c1) (hb1 : w.heap[g1]? = some (.cells #[.slice A1 l1.length c1] 27 (0, 0))) (h : sleep_Of_1.f k a0 l1 = some r) :
 Calls Try.prog 51 #[.int .i64 a0, .pointer (some ⟨g1, 0, none⟩)] w fun e w' => e = .returned (.bool r) ∧ Drawn0 w w' := by
 have HR1 := ak hr1
 have HC1 := ak hc1
 clear hr1 hc1
 have BK1 := ak hb1
 clear hb1
 have H : ((slices_Contains.f k l1 a0).bind fun t188 => (some t188)) = some r := h
 clear h
 obtain ⟨t188, A3, H⟩ := bd_ H
 obtain rfl := Option.some.inj H
 obtain ⟨hcz4_0, hfz4_0⟩ := bz1_ BK1
 go_enter Try.func51, Try.ntmps51
 go_wp2_with (first | ((with_reducible refine gate_callee (f := 52) rfl ?_); refine goesL_ (some 6) rfl rfl Try.func52 (by kernel_rfl) rfl #[.slice A1 l1.length c1, .int .i64 a0] rfl mp_ ?_; (with_reducible refine (slices_Contains.calls k _ _ l1 a0 t188 _ ?side1 ?side2 A3.out).mono ?_); (case side1 => repeat (first | exact HR1.out | with_reducible first | refine Kd.C_alloc ?_ _ | refine Kd.C_drewN ?_ _ | refine Kd.C_drew ?_)); (case side2 => exact HC1.out); rintro e w' ⟨rfl, ⟨nd, rfl⟩⟩; refine ⟨_, rfl, ?_⟩))
 go_ret
 exact ⟨by first | rfl | (simp; done) | (simp [*]; done), by repeat (first | exact Drawn0.refl _ | apply Drawn0.step)⟩

/-! ### ho82: slices.IndexFunc, function 82, at whatever function value that reads -/
set_option maxHeartbeats 2000000 in
theorem ho82 (p : Int → Option Bool) (g : Nat) (la lb : Array Value) (eg : ∀ args w, (callFunc g args).run Try.prog w = .ok (.enter g args) w) (A0 : Option Addr) (c0 : Nat) (l0 : List Int) (r : Int) (w : World)
 (hr0 : Kd.C (Kd.int .i64) w A0 l0.length l0)
 (hp : ∀ (W : World) (x : Int) (b : Bool), Below w.heap.size w W → p x = some b → Calls Try.prog g (la ++ #[.int .i64 x] ++ lb) W fun e W' => e = .returned (.bool b) ∧ Below W.heap.size W W')
 (h : idxF p l0 0 = some r) :
 Calls Try.prog 82 #[.slice A0 l0.length c0, .func (.func g) la lb] w fun e w' => e = .returned (.int .i64 r) ∧ Below w.heap.size w w' := by
 have hmax : l0.length ≤ 9223372036854775807 := Kd.C_max hr0
 have hread : ∀ (W : World), Below w.heap.size w W → ∀ j : Nat, j < l0.length → ∃ ad, A0 = some ad ∧ W.cell? (ad.add j) = some (.int .i64 (rd l0 j)) := by
  intro W hW j hj
  have := Kd.at_int (Kd.C_below hr0 hW) (j : Int) (by omega) (by omega)
  simpa only [Int.toNat_natCast] using this
 generalize hn : l0.length = n at *
 have HR := ak hread
 have HP := ak hp
 have HH := ak h
 clear hread hp h hr0
 have HN := ak hn
 clear hn
 go_enter Try.func82, Try.ntmps82
 go_wp2
 go_loopg [5, 8] n (fun gg _ s8 wr => ∃ kk : Nat, kk ≤ n ∧ n - kk ≤ gg ∧ s8 = .int .i64 kk ∧ Aside0 (Below w.heap.size w wr) ∧ Aside0 (idxF p (l0.drop kk) kk = some r))
 case atStart => exact ⟨0, Nat.zero_le _, by omega, rfl, ⟨Below.refl _ w⟩, ⟨HH.out⟩⟩
 case round =>
  obtain ⟨kk, hkk, hg, rfl, BW, HI⟩ := hrel
  by_cases hlt : kk < n
  · have hltz : (kk : Int) < (n : Int) := by omega
    obtain ⟨ad, e0, q0⟩ := HR.out wr BW.out kk hlt
    have hi := HI.out
    rw [idxF_drop p l0 0 kk (by rw [HN.out]; exact hlt)] at hi
    obtain ⟨b, hb, hi⟩ := Option.bind_eq_some_iff.mp hi
    have hcall := HP.out wr _ b BW.out hb
    (try rw [show l0.getD kk 0 = rd l0 kk from rfl] at hcall)
    generalize rd l0 kk = y at q0 hcall
    subst e0
    clear hb HI
    cases b with
    | true =>
     have hi2 : (kk : Int) = r := by simpa using hi
     clear hi
     have HE := ak hi2
     clear hi2
     go_wp2_with (go_at_fn g; refine hcall.mono ?_; rintro e w' ⟨rfl, hb'⟩)
     go_ret
     exact ⟨by first | rfl | (rw [← HE.out]; rfl) | simp [HE.out], BW.out.trans (hb'.mono BW.out.size)⟩
    | false =>
     have hi2 : idxF p (l0.drop (kk + 1)) (kk + 1) = some r := by simpa using hi
     clear hi
     have HE := ak hi2
     clear hi2
     go_wp2_with (go_at_fn g; refine hcall.mono ?_; rintro e w' ⟨rfl, hb'⟩)
     go_roundg (n - (kk + 1))
     case measure => omega
     case rel =>
      exact ⟨kk + 1, by omega, by omega, by go_num, ⟨BW.out.trans (hb'.mono BW.out.size)⟩, ⟨HE.out⟩⟩
  · have hltz : ¬ (kk : Int) < (n : Int) := by omega
    have : kk = n := by omega
    subst this
    have hi := HI.out
    rw [List.drop_of_length_le (by rw [HN.out]; omega)] at hi
    have hi2 : -1 = r := by simpa [idxF] using hi
    clear hi HI
    have HE := ak hi2
    clear hi2
    go_wp2
    go_ret
    exact ⟨by first | rfl | (rw [← HE.out]; rfl) | simp [HE.out], BW.out⟩

/-! ### ho49: slices.ContainsFunc, function 49 -/
set_option maxHeartbeats 2000000 in
theorem ho49 (p : Int → Option Bool) (g : Nat) (la lb : Array Value) (eg : ∀ args w, (callFunc g args).run Try.prog w = .ok (.enter g args) w) (A0 : Option Addr) (c0 : Nat) (l0 : List Int) (r : Bool) (w : World)
 (hr0 : Kd.C (Kd.int .i64) w A0 l0.length l0)
 (hp : ∀ (W : World) (x : Int) (b : Bool), Below w.heap.size w W → p x = some b → Calls Try.prog g (la ++ #[.int .i64 x] ++ lb) W fun e W' => e = .returned (.bool b) ∧ Below W.heap.size W W')
 (h : anyF p l0 = some r) :
 Calls Try.prog 49 #[.slice A0 l0.length c0, .func (.func g) la lb] w fun e w' => e = .returned (.bool r) ∧ Below w.heap.size w w' := by
 obtain ⟨i, hi, hd⟩ := any_idx l0 0 r (by decide) h
 have hc := ak (ho82 p g la lb eg A0 c0 l0 i w hr0 hp hi)
 have HD := ak hd
 clear hd hi h hp hr0 eg
 go_enter Try.func49, Try.ntmps49
 go_wp2_with (go_at_call 82; refine hc.out.mono ?_; rintro e w' ⟨rfl, hb⟩)
 go_ret
 exact ⟨by first | rfl | (rw [← HD.out]; rfl) | simp [HD.out], hb⟩

/-! ### any_at_sleep_Of_1: function 49 at the function value 51 -/
def any_at_sleep_Of_1.f (k : Nat) (l0 : List (Int)) (l1 : List Int) : Option (Bool) := anyF (fun x => sleep_Of_1.f k  x l1) l0
theorem any_at_sleep_Of_1.mono : ∀ a0 a1 k, LeO (any_at_sleep_Of_1.f k a0 a1) (any_at_sleep_Of_1.f (k + 1) a0 a1) := by
 intro a0 a1 k
 unfold any_at_sleep_Of_1.f
 exact anyF_mono (fun x => sleep_Of_1.mono  x a1 k) a0
theorem any_at_sleep_Of_1.calls (k : Nat) (A0 : Option Addr) (c0 : Nat) (l0 : List (Int)) (g1 : Nat) (A1 : Option Addr) (c1 : Nat) (l1 : List Int) (r : Bool) (w : World) (hr0 : Kd.C (Kd.int .i64) w A0 l0.length l0) (hc0 : l0.length ≤ c0) (hr1 : Kd.C (Kd.int .i64) w A1 l1.length l1) (hc1 : l1.length ≤ c1) (hb1 : w.heap[g1]? = some (.cells #[.slice A1 l1.length c1] 27 (0, 0))) (h : any_at_sleep_Of_1.f k l0 l1 = some r) :
 Calls Try.prog 49 #[.slice A0 l0.length c0, .func (.func 51) #[] #[.pointer (some ⟨g1, 0, none⟩)]] w fun e w' => e = .returned (.bool r) ∧ Below w.heap.size w w' :=
 ho49 (fun x => sleep_Of_1.f k  x l1) 51 #[] #[.pointer (some ⟨g1, 0, none⟩)] (enters_of Try.func51 (by kernel_rfl) rfl) A0 c0 l0 r w hr0 (fun W x b hW_ hx => by
  show Calls Try.prog 51 #[.int .i64 x, .pointer (some ⟨g1, 0, none⟩)] W _
  exact (sleep_Of_1.calls k  x g1 A1 c1 l1 b W (Kd.C_below hr1 hW_) hc1 (hW_.block g1 (by have := (Array.getElem?_eq_some_iff.1 hb1).1; exact this) ▸ hb1) hx).mono (fun e W' ⟨he, hd⟩ => ⟨he, hd.below⟩)) h

/-! ### sleep_Of: function 29 -/
def sleep_Of.l0 : Nat → List Int → List (S26) → Int → Int → List Int → Option (List Int)
 | 0, _, _, _, _, _ => none
 | k + 1, x5, x11, x12, x13, x190000 => if x13 < x12 then (if 0 ≤ x13 then (if x13 < (x11.length : Int) then ((sleep_Sleeper_cells.f k ((rd_T26 x11 x13).f0) ((rd_T26 x11 x13).f1) ((rd_T26 x11 x13).f2) ((rd_T26 x11 x13).f3) ((rd_T26 x11 x13).f4)).bind fun t193 => ((any_at_sleep_Of_1.f k t193 x190000).bind fun t196 => (if t196 = true then (if x5.length < 17592186044416 then (sleep_Of.l0 k (x5 ++ [(rd_T26 x11 x13).f0]) x11 x12 (wrap64 (x13 + 1)) x190000) else (none)) else (sleep_Of.l0 k x5 x11 x12 (wrap64 (x13 + 1)) x190000)))) else (none)) else (none)) else (some x5)
def sleep_Of.f (k : Nat) (l0 : List (S26)) (l1 : List Int) : Option (List Int) := (sleep_Right.f k l0).bind fun t190 => (if t190 = true then (sleep_Of.l0 k ([] : List Int) l0 (l0.length : Int) 0 l1) else (some ([] : List Int)))
theorem sleep_Of.mono_l : ∀ k, (∀ y0 y1 y2 y3 y4, LeO (sleep_Of.l0 k y0 y1 y2 y3 y4) (sleep_Of.l0 (k + 1) y0 y1 y2 y3 y4))
 | 0 => fun _ _ _ _ _ r h => by simp [sleep_Of.l0] at h
 | k + 1 => by
  have ih0 := sleep_Of.mono_l k
  · intro y0 y1 y2 y3 y4
    unfold sleep_Of.l0
    repeat' first
    | (with_reducible exact ih0 _ _ _ _ _)
    | (with_reducible exact any_at_sleep_Of_1.mono _ _ _)
    | (with_reducible exact sleep_Right.mono _ _)
    | (with_reducible exact sleep_Sleeper_cells.mono _ _ _ _ _ _)
    | (with_reducible exact LeO.refl _)
    | (with_reducible exact LeO.none _)
    | (with_reducible refine LeO.ite ?_ ?_)
    | (with_reducible refine LeO.bind ?_ (fun _ => ?_))
    | exact ih0 _ _ _ _ _
    | exact any_at_sleep_Of_1.mono _ _ _
    | exact sleep_Right.mono _ _
    | exact sleep_Sleeper_cells.mono _ _ _ _ _ _
    | exact LeO.none _
    | refine LeO.ite ?_ ?_
    | refine LeO.bind ?_ (fun _ => ?_)
theorem sleep_Of.mono : ∀ a0 a1 k, LeO (sleep_Of.f k a0 a1) (sleep_Of.f (k + 1) a0 a1) := by
 intro a0 a1 k
 have ih0 := sleep_Of.mono_l k
 unfold sleep_Of.f
 repeat' first
  | (with_reducible exact ih0 _ _ _ _ _)
  | (with_reducible exact any_at_sleep_Of_1.mono _ _ _)
  | (with_reducible exact sleep_Right.mono _ _)
  | (with_reducible exact sleep_Sleeper_cells.mono _ _ _ _ _ _)
  | (with_reducible exact LeO.refl _)
  | (with_reducible exact LeO.none _)
  | (with_reducible refine LeO.ite ?_ ?_)
  | (with_reducible refine LeO.bind ?_ (fun _ => ?_))
  | exact ih0 _ _ _ _ _
  | exact any_at_sleep_Of_1.mono _ _ _
  | exact sleep_Right.mono _ _
  | exact sleep_Sleeper_cells.mono _ _ _ _ _ _
  | exact LeO.none _
  | refine LeO.ite ?_ ?_
  | refine LeO.bind ?_ (fun _ => ?_)
set_option maxHeartbeats 8000000 in
set_option maxRecDepth 100000 in
theorem sleep_Of.calls (k : Nat) (A0 : Option Addr) (c0 : Nat) (l0 : List (S26)) (A1 : Option Addr) (c1 : Nat) (l1 : List Int) (r : List Int) (w : World) (hr0 : Kd.C k26 w A0 l0.length l0) (hc0 : l0.length ≤ c0) (hr1 : Kd.C (Kd.int .i64) w A1 l1.length l1) (hc1 : l1.length ≤ c1) (h : sleep_Of.f k l0 l1 = some r) :
 Calls Try.prog 29 #[.slice A0 l0.length c0, .slice A1 l1.length c1] w fun e w' => ∃ v0_ : Value, e = .returned (v0_) ∧ Kd.R (Kd.int .i64) 3 w' w.heap.size (fun _ => True) v0_ r ∧ Below w.heap.size w w' := by
 have hu26 := Try.underlying26
 have HR0 := ak hr0
 have HC0 := ak hc0
 clear hr0 hc0
 have HR1 := ak hr1
 have HC1 := ak hc1
 clear hr1 hc1
 have HB := ak (Below.refl w.heap.size w)
 have H : ((sleep_Right.f k l0).bind fun t190 => (if t190 = true then (sleep_Of.l0 k ([] : List Int) l0 (l0.length : Int) 0 l1) else (some ([] : List Int)))) = some r := h
 clear h
 obtain ⟨t190, A3, H⟩ := bd_ H
 by_cases c4 : t190 = true
 · subst c4
   rw [if_pos rfl] at H
   have H' := ak H
   clear H
   go_enter Try.func29, Try.ntmps29
   go_wp2_with (first | ((with_reducible refine gate_dst (N := 3) rfl ?_); refine box_event ?hg (N := 3) ?hd (cs := #[.slice A1 l1.length c1]) (t := 27) ?hr ?_; (case hd => rfl); (case hg => rfl); (case hr => first | (go_simp; done) | (go_simp; rfl)); intro gb189 hg w5 hbox hb; replace BK189 := ak (hbox); replace GW189 := ak ((by rw [hg]; exact bsz_ : w.heap.size ≤ gb189)); replace HB := ak (bst_ hb); replace GE189 := GW189; clear hb hbox hg) | ((with_reducible refine gate_callee (f := 26) rfl ?_); refine goesL_ (some 9) rfl rfl Try.func26 (by kernel_rfl) rfl #[.slice A0 l0.length c0] rfl mp_ ?_; (with_reducible refine (sleep_Right.calls k _ _ l0 true _ ?side1 ?side2 A3.out).mono ?_); (case side1 => repeat (first | exact (Kd.C_below HR0.out HB.out) | with_reducible first | refine Kd.C_alloc ?_ _ | refine Kd.C_drewN ?_ _ | refine Kd.C_drew ?_)); (case side2 => exact HC0.out); rintro e w6 ⟨rfl, hb⟩; refine ⟨_, rfl, ?_⟩; replace BK189 := bb_ BK189 hb; replace HB := ak (below_step bsw_ hb); (try clear hb); (try clear hb2); (try clear hk); (try clear hi)))
   go_loopg [5, 13] k (fun kq v5 v13 w' => ∃ (x5_1 : List Int) (x13_1 : Int), v13 = .int .i64 x13_1 ∧ Aside0 (sleep_Of.l0 kq x5_1 l0 (l0.length : Int) x13_1 l1 = some r) ∧ Aside0 (kq ≤ k) ∧ Aside0 (Kd.R (Kd.int .i64) 3 w' w.heap.size (fun _ => True) v5 x5_1) ∧ Aside0 (w'.heap[gb189]? = some (.cells #[(.slice A1 l1.length c1)] 27 (0, 0))) ∧ Aside0 (Below w.heap.size w w'))
   case atStart => exact ⟨(([] : List Int)), (0), (by first | rfl | (simp; done) | (simp [*]; done)), H', ⟨Nat.le_refl _⟩, ⟨by first | exact Kd.R_nil _ _ _ _ _ | exact Kd.N_nil _ _ _ _ _ | exact Kd.V_nil _ _ _ _ _ | exact Kd.Q_nil _ _ _ _ _ | exact Kd.S_nil _ _ _ _ _⟩, ⟨bq_ BK189⟩, ⟨bsw_⟩⟩
   case round =>
    clear H'
    try clear c1
    try clear c2
    try clear p2
    try clear c4
    obtain ⟨x5_1, x13_1, rfl, HA, HK1, HO_5, BK189, HB⟩ := hrel
    cases gk with
    | zero => exact absurd HA.out (by simp [sleep_Of.l0])
    | succ k1 =>
     have H := HA.out
     clear HA
     simp only [sleep_Of.l0] at H
     by_cases c7 : x13_1 < (l0.length : Int)
     · rw [if_pos c7] at H
       have c7b0 : decide (x13_1 < (l0.length : Int)) = true := decide_eq_true c7
       clear c7
       by_cases c8 : 0 ≤ x13_1
       · rw [if_pos c8] at H
         have c8b0 : decide (0 ≤ x13_1) = true := decide_eq_true c8
         clear c8
         by_cases c9 : x13_1 < (l0.length : Int)
         · rw [if_pos c9] at H
           have c9b0 : decide (x13_1 < (l0.length : Int)) = true := decide_eq_true c9
           clear c9
           obtain ⟨t193, A10, H⟩ := bd_ H
           obtain ⟨t196, A11, H⟩ := bd_ H
           by_cases c12 : t196 = true
           · subst c12
             rw [if_pos rfl] at H
             by_cases c13 : x5_1.length < 17592186044416
             · rw [if_pos c13] at H
               have LMc13 := ak c13
               clear c13
               obtain ⟨y197, hy197⟩ : ∃ y_ : List Int, y_ = (x5_1 ++ [(rd_T26 l0 x13_1).f0]) := ⟨_, rfl⟩
               replace H : (sleep_Of.l0 k1 y197 l0 (l0.length : Int) (wrap64 (x13_1 + 1)) l1) = some r := by first | (rw [hy197]; with_reducible exact H) | (have H2_ := (Option.bind_some _ _).symm.trans H; rw [hy197]; with_reducible exact H2_) | (have H2_ := (Option.bind_some _ _).symm.trans H; with_reducible exact H2_) | with_reducible exact H | (rw [hy197]; exact H) | exact H
               have Ny197 := ak hy197
               clear hy197
               have H' := ak H
               clear H
               have p191 : 0 ≤ (x13_1 : Int) := oda_
               have q191 : x13_1 < (l0.length : Int) := oda_
               obtain ⟨ad191, A191_3, c191_3, A191_4, c191_4, e191, hx191_0, hx191_1, hx191_2, hx191_3, hx191_4, hl191_3, hi191_3, hl191_4, hi191_4⟩ := at_T26 HR0.out x13_1 p191 q191
               cases e191
               replace hx191_0 := bl_ HB hx191_0
               replace hx191_1 := bl_ HB hx191_1
               replace hx191_2 := bl_ HB hx191_2
               replace hx191_3 := bl_ HB hx191_3
               replace hx191_4 := bl_ HB hx191_4
               have HR191_3 := ak hi191_3
               have HC191_3 := ak hl191_3
               clear hi191_3 hl191_3
               have HR191_4 := ak hi191_4
               have HC191_4 := ak hl191_4
               clear hi191_4 hl191_4
               replace p191 := eq_true p191
               replace q191 := eq_true q191
               go_wp2_with (first | ((with_reducible refine gate_dst (N := 7) rfl ?_); refine box_event ?hg (N := 7) ?hd (cs := #[.int .i64 0, .int .i64 0, .int .i64 0, .slice none 0 0, .slice none 0 0]) (t := 26) ?hr ?_; (case hd => rfl); (case hg => rfl); (case hr => first | (go_simp; done) | (go_simp; rfl)); intro gb192 hg w14 hbox hb; replace HO_5 := rb_ HO_5 hb; replace BK192 := ak (hbox); replace GW192 := ak ((by rw [hg]; exact (below_size bsw_) : w.heap.size ≤ gb192)); replace HB := ak (below_step bsw_ hb); replace GE192 := GW192; replace NB189_192 := ak ((by rw [hg]; exact Nat.ne_of_lt (blk_lt (g := gb189) (o := .cells #[.slice A1 l1.length c1] 27 (0, 0)) (bq_ BK189)) : gb189 ≠ gb192)); replace NB192_189 := ak ((by rw [hg]; exact Nat.ne_of_gt (blk_lt (g := gb189) (o := .cells #[.slice A1 l1.length c1] 27 (0, 0)) (bq_ BK189)) : gb192 ≠ gb189)); replace BK189 := bb_ BK189 hb; clear hb hbox hg; have hnb15 := NB192_189.out; have hnc15 := NB189_192.out; obtain ⟨hcz16_0, hcz16_1, hcz16_2, hcz16_3, hcz16_4, hfz16_0, hfz16_1, hfz16_2, hfz16_3, hfz16_4⟩ := bz5_ BK192) | ((with_reducible refine gate_callee (f := 50) rfl ?_); refine goesL_ (some 18) rfl rfl Try.func50 (by kernel_rfl) rfl #[.agg #[.int .i64 ((rd_T26 l0 x13_1).f0), .int .i64 ((rd_T26 l0 x13_1).f1), .int .i64 ((rd_T26 l0 x13_1).f2), .slice A191_3 ((rd_T26 l0 x13_1).f3).length c191_3, .slice A191_4 ((rd_T26 l0 x13_1).f4).length c191_4]] rfl mp_ ?_; (with_reducible refine (sleep_Sleeper_cells.calls k1 ((rd_T26 l0 x13_1).f0) ((rd_T26 l0 x13_1).f1) ((rd_T26 l0 x13_1).f2) _ _ ((rd_T26 l0 x13_1).f3) _ _ ((rd_T26 l0 x13_1).f4) t193 _ ?side1 ?side2 ?side3 ?side4 A10.out).mono ?_); (case side1 => exact Kd.C_below HR191_3.out (by repeat (first | (with_reducible first | exact HB.out | apply below_alloc | apply pw_below_drewN | apply below_drew1 | refine below_set ?_ GE189.out | refine below_set ?_ GE192.out) | exact HB.out))); (case side2 => exact HC191_3.out); (case side3 => exact Kd.C_below HR191_4.out (by repeat (first | (with_reducible first | exact HB.out | apply below_alloc | apply pw_below_drewN | apply below_drew1 | refine below_set ?_ GE189.out | refine below_set ?_ GE192.out) | exact HB.out))); (case side4 => exact HC191_4.out); rintro e w17 ⟨v194, rfl, ho0, hb⟩; refine ⟨_, rfl, ?_⟩; replace HO195 := ak (Kd.R_lower (Kd.R_new' ho0 (Kd.R_lt (by (with_reducible repeat (first | apply Kd.R_alloc | apply Kd.R_drewN | apply Kd.R_drew)); exact (Kd.R_mono (Kd.R_far (p := ⟨gb192, 4, none⟩) (Kd.R_far (p := ⟨gb192, 3, none⟩) (Kd.R_far (p := ⟨gb192, 2, none⟩) (Kd.R_far (p := ⟨gb192, 1, none⟩) (Kd.R_far (p := ⟨gb192, 0, none⟩) (Kd.R_types HO_5.out BK192.out (by decide)) (fun _ hk => hk.2) (.int .i64 ((rd_T26 l0 x13_1).f0))) (fun _ hk => hk.2) (.int .i64 ((rd_T26 l0 x13_1).f1))) (fun _ hk => hk.2) (.int .i64 ((rd_T26 l0 x13_1).f2))) (fun _ hk => hk.2) (.slice A191_3 ((rd_T26 l0 x13_1).f3).length c191_3)) (fun _ hk => hk.2) (.slice A191_4 ((rd_T26 l0 x13_1).f4).length c191_4)) (fun _ h_ => h_.1))))) (below_size (by repeat (first | (with_reducible first | exact HB.out | apply below_alloc | apply pw_below_drewN | apply below_drew1 | refine below_set ?_ GE189.out | refine below_set ?_ GE192.out) | exact HB.out)))); replace HO_5 := ak (Kd.R_elder' (by (with_reducible repeat (first | apply Kd.R_alloc | apply Kd.R_drewN | apply Kd.R_drew)); exact (Kd.R_mono (Kd.R_far (p := ⟨gb192, 4, none⟩) (Kd.R_far (p := ⟨gb192, 3, none⟩) (Kd.R_far (p := ⟨gb192, 2, none⟩) (Kd.R_far (p := ⟨gb192, 1, none⟩) (Kd.R_far (p := ⟨gb192, 0, none⟩) (Kd.R_types HO_5.out BK192.out (by decide)) (fun _ hk => hk.2) (.int .i64 ((rd_T26 l0 x13_1).f0))) (fun _ hk => hk.2) (.int .i64 ((rd_T26 l0 x13_1).f1))) (fun _ hk => hk.2) (.int .i64 ((rd_T26 l0 x13_1).f2))) (fun _ hk => hk.2) (.slice A191_3 ((rd_T26 l0 x13_1).f3).length c191_3)) (fun _ hk => hk.2) (.slice A191_4 ((rd_T26 l0 x13_1).f4).length c191_4)) (fun _ h_ => h_.1))) (Kd.R_base ho0) hb); replace BK189 := ak (blk_below (g := gb189) (o := .cells #[.slice A1 l1.length c1] 27 (0, 0)) (by (with_reducible repeat (first | refine blk_drewN ?_ _ | refine blk_drew ?_ | refine blk_alloc ?_ _)); refine blk_far ?_ NB189_192.out _; (with_reducible repeat (first | refine blk_drewN ?_ _ | refine blk_drew ?_ | refine blk_alloc ?_ _)); refine blk_far ?_ NB189_192.out _; (with_reducible repeat (first | refine blk_drewN ?_ _ | refine blk_drew ?_ | refine blk_alloc ?_ _)); refine blk_far ?_ NB189_192.out _; (with_reducible repeat (first | refine blk_drewN ?_ _ | refine blk_drew ?_ | refine blk_alloc ?_ _)); refine blk_far ?_ NB189_192.out _; (with_reducible repeat (first | refine blk_drewN ?_ _ | refine blk_drew ?_ | refine blk_alloc ?_ _)); refine blk_far ?_ NB189_192.out _; (with_reducible repeat (first | refine blk_drewN ?_ _ | refine blk_drew ?_ | refine blk_alloc ?_ _)); exact BK189.out) hb); replace BK192 := ak (blk_below (g := gb192) (o := .cells #[.int .i64 ((rd_T26 l0 x13_1).f0), .int .i64 ((rd_T26 l0 x13_1).f1), .int .i64 ((rd_T26 l0 x13_1).f2), .slice A191_3 ((rd_T26 l0 x13_1).f3).length c191_3, .slice A191_4 ((rd_T26 l0 x13_1).f4).length c191_4] 26 (0, 0)) (by (with_reducible repeat (first | refine blk_drewN ?_ _ | refine blk_drew ?_ | refine blk_alloc ?_ _)); refine blk_put (cs := #[.int .i64 ((rd_T26 l0 x13_1).f0), .int .i64 ((rd_T26 l0 x13_1).f1), .int .i64 ((rd_T26 l0 x13_1).f2), .slice A191_3 ((rd_T26 l0 x13_1).f3).length c191_3, .slice none 0 0]) ?_ 4 _ rfl; (with_reducible repeat (first | refine blk_drewN ?_ _ | refine blk_drew ?_ | refine blk_alloc ?_ _)); refine blk_put (cs := #[.int .i64 ((rd_T26 l0 x13_1).f0), .int .i64 ((rd_T26 l0 x13_1).f1), .int .i64 ((rd_T26 l0 x13_1).f2), .slice none 0 0, .slice none 0 0]) ?_ 3 _ rfl; (with_reducible repeat (first | refine blk_drewN ?_ _ | refine blk_drew ?_ | refine blk_alloc ?_ _)); refine blk_put (cs := #[.int .i64 ((rd_T26 l0 x13_1).f0), .int .i64 ((rd_T26 l0 x13_1).f1), .int .i64 0, .slice none 0 0, .slice none 0 0]) ?_ 2 _ rfl; (with_reducible repeat (first | refine blk_drewN ?_ _ | refine blk_drew ?_ | refine blk_alloc ?_ _)); refine blk_put (cs := #[.int .i64 ((rd_T26 l0 x13_1).f0), .int .i64 0, .int .i64 0, .slice none 0 0, .slice none 0 0]) ?_ 1 _ rfl; (with_reducible repeat (first | refine blk_drewN ?_ _ | refine blk_drew ?_ | refine blk_alloc ?_ _)); refine blk_put (cs := #[.int .i64 0, .int .i64 0, .int .i64 0, .slice none 0 0, .slice none 0 0]) ?_ 0 _ rfl; (with_reducible repeat (first | refine blk_drewN ?_ _ | refine blk_drew ?_ | refine blk_alloc ?_ _)); exact BK192.out) hb); replace HB := ak (below_step (by repeat (first | (with_reducible first | exact HB.out | apply below_alloc | apply pw_below_drewN | apply below_drew1 | refine below_set ?_ GE189.out | refine below_set ?_ GE192.out) | exact HB.out)) hb); (try clear hb); (try clear hb2); (try clear hk); (try clear hi); (try clear ho0); obtain ⟨Ao18, co18, eo18⟩ := Kd.R_slice HO195.out; subst eo18) | ((with_reducible refine gate_callee (f := 49) rfl ?_); refine goesL_ (some 20) rfl rfl Try.func49 (by kernel_rfl) rfl #[.slice Ao18 t193.length co18, .func (.func 51) #[] #[.pointer (some ⟨gb189, 0, none⟩)]] rfl mp_ ?_; (with_reducible refine (any_at_sleep_Of_1.calls k1 _ _ t193 gb189 A1 c1 l1 true _ ?side1 ?side2 ?side3 ?side4 ?side5 A11.out).mono ?_); (case side1 => repeat (first | exact (Kd.R_reads' HO195.out).2.2 | with_reducible first | refine Kd.C_alloc ?_ _ | refine Kd.C_drewN ?_ _ | refine Kd.C_drew ?_)); (case side2 => exact (Kd.R_reads' HO195.out).2.1); (case side3 => repeat (first | exact (Kd.C_below HR1.out HB.out) | with_reducible first | refine Kd.C_alloc ?_ _ | refine Kd.C_drewN ?_ _ | refine Kd.C_drew ?_)); (case side4 => exact HC1.out); (case side5 => exact (bq_ BK189)); rintro e w19 ⟨rfl, hb⟩; refine ⟨_, rfl, ?_⟩; replace HO_5 := rb_ HO_5 hb; replace HO195 := rb_ HO195 hb; replace BK189 := bb_ BK189 hb; replace BK192 := bb_ BK192 hb; replace HB := ak (below_step (by repeat (first | (with_reducible first | exact HB.out | apply below_alloc | apply pw_below_drewN | apply below_drew1 | refine below_set ?_ GE189.out | refine below_set ?_ GE192.out) | exact HB.out)) hb); (try clear hb); (try clear hb2); (try clear hk); (try clear hi); obtain ⟨hcz20_0, hcz20_1, hcz20_2, hcz20_3, hcz20_4, hfz20_0, hfz20_1, hfz20_2, hfz20_3, hfz20_4⟩ := bz5_ BK192) | ((with_reducible refine gate_builtin (b := .append) (xs := #[.tmp 21, .tmp 24]) rfl ?_); at_builtin; refine Kd.R_append (Kd.int .i64) (w0 := w) w.heap.size rfl (.tmp 21) (.tmp 24) 27 3 (.int .i64 0) 8 rfl Try.underlying27 info3 rfl (by decide) (by omega) u5 x5_1 ((rd_T26 l0 x13_1).f0) [.int .i64 ((rd_T26 l0 x13_1).f0)] (fun k_ => some k_ ≠ (.slice Ao18 t193.length co18 : Value).ownBlock) (fun _ => False) rfl rfl ?aP (fun _ hk => hk.elim) ?aF ?aO ?aB ?aS ?aL ?_; (case aP => exact rfl); (case aB => exact (by repeat (first | (with_reducible first | exact HB.out | apply below_alloc | apply pw_below_drewN | apply below_drew1 | refine below_set ?_ GE189.out | refine below_set ?_ GE192.out) | exact HB.out))); (case aF => exact (fun k_ hk => Kd.fresh' (Kd.R_lt (rq_ HO195)) k_ hk)); (case aO => exact (Kd.R_mono (rq_ HO_5) (fun _ hk => hk.2))); (case aS => exact (below_size (by repeat (first | (with_reducible first | exact HB.out | apply below_alloc | apply pw_below_drewN | apply below_drew1 | refine below_set ?_ GE189.out | refine below_set ?_ GE192.out) | exact HB.out)))); (case aL => have := LMc13.out; omega); intro v198 w21 ho hb hg hat; rw [← Ny197.out] at ho; replace BK189 := ak (blk_grown (g := gb189) (o := .cells #[.slice A1 l1.length c1] 27 (0, 0)) (bq_ BK189) hg (Kd.R_ne HO_5.out BK189.out (by decide))); replace BK192 := ak (blk_grown (g := gb192) (o := .cells #[.int .i64 ((rd_T26 l0 x13_1).f0), .int .i64 ((rd_T26 l0 x13_1).f1), .int .i64 ((rd_T26 l0 x13_1).f2), .slice A191_3 ((rd_T26 l0 x13_1).f3).length c191_3, .slice A191_4 ((rd_T26 l0 x13_1).f4).length c191_4] 26 (0, 0)) (bq_ BK192) hg (Kd.R_ne HO_5.out BK192.out (by decide))); replace HO195 := ak (Kd.R_after (ok := (fun _ => True)) (rq_ HO195) hg hat); replace HB := ak (hb); replace HO199 := ak (ho); clear HO_5; clear ho hb hg hat))
               go_roundg k1
               case measure => have := HK1.out; omega
               case rel => exact ⟨(y197), (wrap64 (x13_1 + 1)), (by first | rfl | (simp; done) | (simp [*]; done)), H', ⟨by have := HK1.out; omega⟩, ⟨Kd.R_mono (rq_ HO199) (fun _ hk => trivial)⟩, ⟨bq_ BK189⟩, ⟨by repeat (first | (with_reducible first | exact HB.out | apply below_alloc | apply pw_below_drewN | apply below_drew1 | refine below_set ?_ GE189.out | refine below_set ?_ GE192.out) | exact HB.out)⟩⟩
             · rw [if_neg c13] at H
               exact absurd H (by simp)
           · replace c12 := Bool.eq_false_iff.mpr c12
             subst c12
             rw [if_neg (show ¬ (false = true) by decide)] at H
             have H' := ak H
             clear H
             have p191 : 0 ≤ (x13_1 : Int) := oda_
             have q191 : x13_1 < (l0.length : Int) := oda_
             obtain ⟨ad191, A191_3, c191_3, A191_4, c191_4, e191, hx191_0, hx191_1, hx191_2, hx191_3, hx191_4, hl191_3, hi191_3, hl191_4, hi191_4⟩ := at_T26 HR0.out x13_1 p191 q191
             cases e191
             replace hx191_0 := bl_ HB hx191_0
             replace hx191_1 := bl_ HB hx191_1
             replace hx191_2 := bl_ HB hx191_2
             replace hx191_3 := bl_ HB hx191_3
             replace hx191_4 := bl_ HB hx191_4
             have HR191_3 := ak hi191_3
             have HC191_3 := ak hl191_3
             clear hi191_3 hl191_3
             have HR191_4 := ak hi191_4
             have HC191_4 := ak hl191_4
             clear hi191_4 hl191_4
             replace p191 := eq_true p191
             replace q191 := eq_true q191
             go_wp2_with (first | ((with_reducible refine gate_dst (N := 7) rfl ?_); refine box_event ?hg (N := 7) ?hd (cs := #[.int .i64 0, .int .i64 0, .int .i64 0, .slice none 0 0, .slice none 0 0]) (t := 26) ?hr ?_; (case hd => rfl); (case hg => rfl); (case hr => first | (go_simp; done) | (go_simp; rfl)); intro gb192 hg w22 hbox hb; replace HO_5 := rb_ HO_5 hb; replace BK192 := ak (hbox); replace GW192 := ak ((by rw [hg]; exact (below_size bsw_) : w.heap.size ≤ gb192)); replace HB := ak (below_step bsw_ hb); replace GE192 := GW192; replace NB189_192 := ak ((by rw [hg]; exact Nat.ne_of_lt (blk_lt (g := gb189) (o := .cells #[.slice A1 l1.length c1] 27 (0, 0)) (bq_ BK189)) : gb189 ≠ gb192)); replace NB192_189 := ak ((by rw [hg]; exact Nat.ne_of_gt (blk_lt (g := gb189) (o := .cells #[.slice A1 l1.length c1] 27 (0, 0)) (bq_ BK189)) : gb192 ≠ gb189)); replace BK189 := bb_ BK189 hb; clear hb hbox hg; have hnb23 := NB192_189.out; have hnc23 := NB189_192.out; obtain ⟨hcz24_0, hcz24_1, hcz24_2, hcz24_3, hcz24_4, hfz24_0, hfz24_1, hfz24_2, hfz24_3, hfz24_4⟩ := bz5_ BK192) | ((with_reducible refine gate_callee (f := 50) rfl ?_); refine goesL_ (some 18) rfl rfl Try.func50 (by kernel_rfl) rfl #[.agg #[.int .i64 ((rd_T26 l0 x13_1).f0), .int .i64 ((rd_T26 l0 x13_1).f1), .int .i64 ((rd_T26 l0 x13_1).f2), .slice A191_3 ((rd_T26 l0 x13_1).f3).length c191_3, .slice A191_4 ((rd_T26 l0 x13_1).f4).length c191_4]] rfl mp_ ?_; (with_reducible refine (sleep_Sleeper_cells.calls k1 ((rd_T26 l0 x13_1).f0) ((rd_T26 l0 x13_1).f1) ((rd_T26 l0 x13_1).f2) _ _ ((rd_T26 l0 x13_1).f3) _ _ ((rd_T26 l0 x13_1).f4) t193 _ ?side1 ?side2 ?side3 ?side4 A10.out).mono ?_); (case side1 => exact Kd.C_below HR191_3.out (by repeat (first | (with_reducible first | exact HB.out | apply below_alloc | apply pw_below_drewN | apply below_drew1 | refine below_set ?_ GE189.out | refine below_set ?_ GE192.out) | exact HB.out))); (case side2 => exact HC191_3.out); (case side3 => exact Kd.C_below HR191_4.out (by repeat (first | (with_reducible first | exact HB.out | apply below_alloc | apply pw_below_drewN | apply below_drew1 | refine below_set ?_ GE189.out | refine below_set ?_ GE192.out) | exact HB.out))); (case side4 => exact HC191_4.out); rintro e w25 ⟨v194, rfl, ho0, hb⟩; refine ⟨_, rfl, ?_⟩; replace HO195 := ak (Kd.R_lower (Kd.R_new' ho0 (Kd.R_lt (by (with_reducible repeat (first | apply Kd.R_alloc | apply Kd.R_drewN | apply Kd.R_drew)); exact (Kd.R_mono (Kd.R_far (p := ⟨gb192, 4, none⟩) (Kd.R_far (p := ⟨gb192, 3, none⟩) (Kd.R_far (p := ⟨gb192, 2, none⟩) (Kd.R_far (p := ⟨gb192, 1, none⟩) (Kd.R_far (p := ⟨gb192, 0, none⟩) (Kd.R_types HO_5.out BK192.out (by decide)) (fun _ hk => hk.2) (.int .i64 ((rd_T26 l0 x13_1).f0))) (fun _ hk => hk.2) (.int .i64 ((rd_T26 l0 x13_1).f1))) (fun _ hk => hk.2) (.int .i64 ((rd_T26 l0 x13_1).f2))) (fun _ hk => hk.2) (.slice A191_3 ((rd_T26 l0 x13_1).f3).length c191_3)) (fun _ hk => hk.2) (.slice A191_4 ((rd_T26 l0 x13_1).f4).length c191_4)) (fun _ h_ => h_.1))))) (below_size (by repeat (first | (with_reducible first | exact HB.out | apply below_alloc | apply pw_below_drewN | apply below_drew1 | refine below_set ?_ GE189.out | refine below_set ?_ GE192.out) | exact HB.out)))); replace HO_5 := ak (Kd.R_elder' (by (with_reducible repeat (first | apply Kd.R_alloc | apply Kd.R_drewN | apply Kd.R_drew)); exact (Kd.R_mono (Kd.R_far (p := ⟨gb192, 4, none⟩) (Kd.R_far (p := ⟨gb192, 3, none⟩) (Kd.R_far (p := ⟨gb192, 2, none⟩) (Kd.R_far (p := ⟨gb192, 1, none⟩) (Kd.R_far (p := ⟨gb192, 0, none⟩) (Kd.R_types HO_5.out BK192.out (by decide)) (fun _ hk => hk.2) (.int .i64 ((rd_T26 l0 x13_1).f0))) (fun _ hk => hk.2) (.int .i64 ((rd_T26 l0 x13_1).f1))) (fun _ hk => hk.2) (.int .i64 ((rd_T26 l0 x13_1).f2))) (fun _ hk => hk.2) (.slice A191_3 ((rd_T26 l0 x13_1).f3).length c191_3)) (fun _ hk => hk.2) (.slice A191_4 ((rd_T26 l0 x13_1).f4).length c191_4)) (fun _ h_ => h_.1))) (Kd.R_base ho0) hb); replace BK189 := ak (blk_below (g := gb189) (o := .cells #[.slice A1 l1.length c1] 27 (0, 0)) (by (with_reducible repeat (first | refine blk_drewN ?_ _ | refine blk_drew ?_ | refine blk_alloc ?_ _)); refine blk_far ?_ NB189_192.out _; (with_reducible repeat (first | refine blk_drewN ?_ _ | refine blk_drew ?_ | refine blk_alloc ?_ _)); refine blk_far ?_ NB189_192.out _; (with_reducible repeat (first | refine blk_drewN ?_ _ | refine blk_drew ?_ | refine blk_alloc ?_ _)); refine blk_far ?_ NB189_192.out _; (with_reducible repeat (first | refine blk_drewN ?_ _ | refine blk_drew ?_ | refine blk_alloc ?_ _)); refine blk_far ?_ NB189_192.out _; (with_reducible repeat (first | refine blk_drewN ?_ _ | refine blk_drew ?_ | refine blk_alloc ?_ _)); refine blk_far ?_ NB189_192.out _; (with_reducible repeat (first | refine blk_drewN ?_ _ | refine blk_drew ?_ | refine blk_alloc ?_ _)); exact BK189.out) hb); replace BK192 := ak (blk_below (g := gb192) (o := .cells #[.int .i64 ((rd_T26 l0 x13_1).f0), .int .i64 ((rd_T26 l0 x13_1).f1), .int .i64 ((rd_T26 l0 x13_1).f2), .slice A191_3 ((rd_T26 l0 x13_1).f3).length c191_3, .slice A191_4 ((rd_T26 l0 x13_1).f4).length c191_4] 26 (0, 0)) (by (with_reducible repeat (first | refine blk_drewN ?_ _ | refine blk_drew ?_ | refine blk_alloc ?_ _)); refine blk_put (cs := #[.int .i64 ((rd_T26 l0 x13_1).f0), .int .i64 ((rd_T26 l0 x13_1).f1), .int .i64 ((rd_T26 l0 x13_1).f2), .slice A191_3 ((rd_T26 l0 x13_1).f3).length c191_3, .slice none 0 0]) ?_ 4 _ rfl; (with_reducible repeat (first | refine blk_drewN ?_ _ | refine blk_drew ?_ | refine blk_alloc ?_ _)); refine blk_put (cs := #[.int .i64 ((rd_T26 l0 x13_1).f0), .int .i64 ((rd_T26 l0 x13_1).f1), .int .i64 ((rd_T26 l0 x13_1).f2), .slice none 0 0, .slice none 0 0]) ?_ 3 _ rfl; (with_reducible repeat (first | refine blk_drewN ?_ _ | refine blk_drew ?_ | refine blk_alloc ?_ _)); refine blk_put (cs := #[.int .i64 ((rd_T26 l0 x13_1).f0), .int .i64 ((rd_T26 l0 x13_1).f1), .int .i64 0, .slice none 0 0, .slice none 0 0]) ?_ 2 _ rfl; (with_reducible repeat (first | refine blk_drewN ?_ _ | refine blk_drew ?_ | refine blk_alloc ?_ _)); refine blk_put (cs := #[.int .i64 ((rd_T26 l0 x13_1).f0), .int .i64 0, .int .i64 0, .slice none 0 0, .slice none 0 0]) ?_ 1 _ rfl; (with_reducible repeat (first | refine blk_drewN ?_ _ | refine blk_drew ?_ | refine blk_alloc ?_ _)); refine blk_put (cs := #[.int .i64 0, .int .i64 0, .int .i64 0, .slice none 0 0, .slice none 0 0]) ?_ 0 _ rfl; (with_reducible repeat (first | refine blk_drewN ?_ _ | refine blk_drew ?_ | refine blk_alloc ?_ _)); exact BK192.out) hb); replace HB := ak (below_step (by repeat (first | (with_reducible first | exact HB.out | apply below_alloc | apply pw_below_drewN | apply below_drew1 | refine below_set ?_ GE189.out | refine below_set ?_ GE192.out) | exact HB.out)) hb); (try clear hb); (try clear hb2); (try clear hk); (try clear hi); (try clear ho0); obtain ⟨Ao26, co26, eo26⟩ := Kd.R_slice HO195.out; subst eo26) | ((with_reducible refine gate_callee (f := 49) rfl ?_); refine goesL_ (some 20) rfl rfl Try.func49 (by kernel_rfl) rfl #[.slice Ao26 t193.length co26, .func (.func 51) #[] #[.pointer (some ⟨gb189, 0, none⟩)]] rfl mp_ ?_; (with_reducible refine (any_at_sleep_Of_1.calls k1 _ _ t193 gb189 A1 c1 l1 false _ ?side1 ?side2 ?side3 ?side4 ?side5 A11.out).mono ?_); (case side1 => repeat (first | exact (Kd.R_reads' HO195.out).2.2 | with_reducible first | refine Kd.C_alloc ?_ _ | refine Kd.C_drewN ?_ _ | refine Kd.C_drew ?_)); (case side2 => exact (Kd.R_reads' HO195.out).2.1); (case side3 => repeat (first | exact (Kd.C_below HR1.out HB.out) | with_reducible first | refine Kd.C_alloc ?_ _ | refine Kd.C_drewN ?_ _ | refine Kd.C_drew ?_)); (case side4 => exact HC1.out); (case side5 => exact (bq_ BK189)); rintro e w27 ⟨rfl, hb⟩; refine ⟨_, rfl, ?_⟩; replace HO_5 := rb_ HO_5 hb; replace HO195 := rb_ HO195 hb; replace BK189 := bb_ BK189 hb; replace BK192 := bb_ BK192 hb; replace HB := ak (below_step (by repeat (first | (with_reducible first | exact HB.out | apply below_alloc | apply pw_below_drewN | apply below_drew1 | refine below_set ?_ GE189.out | refine below_set ?_ GE192.out) | exact HB.out)) hb); (try clear hb); (try clear hb2); (try clear hk); (try clear hi)))
             go_roundg k1
             case measure => have := HK1.out; omega
             case rel => exact ⟨(x5_1), (wrap64 (x13_1 + 1)), (by first | rfl | (simp; done) | (simp [*]; done)), H', ⟨by have := HK1.out; omega⟩, ⟨Kd.R_mono (rq_ HO_5) (fun _ hk => trivial)⟩, ⟨bq_ BK189⟩, ⟨by repeat (first | (with_reducible first | exact HB.out | apply below_alloc | apply pw_below_drewN | apply below_drew1 | refine below_set ?_ GE189.out | refine below_set ?_ GE192.out) | exact HB.out)⟩⟩
         · rw [if_neg c9] at H
           exact absurd H (by simp)
       · rw [if_neg c8] at H
         exact absurd H (by simp)
     · rw [if_neg c7] at H
       have c7b0 : decide (x13_1 < (l0.length : Int)) = false := decide_eq_false c7
       clear c7
       obtain rfl := Option.some.inj H
       go_wp2
       go_ret
       exact ⟨_, by first | rfl | (simp [errW_none, errW_some] <;> rfl) | (simp [*, errW_none, errW_some] <;> rfl), rq_ HO_5, bsw_⟩
 · replace c4 := Bool.eq_false_iff.mpr c4
   subst c4
   rw [if_neg (show ¬ (false = true) by decide)] at H
   obtain rfl := Option.some.inj H
   go_enter Try.func29, Try.ntmps29
   go_wp2_with (first | ((with_reducible refine gate_dst (N := 3) rfl ?_); refine box_event ?hg (N := 3) ?hd (cs := #[.slice A1 l1.length c1]) (t := 27) ?hr ?_; (case hd => rfl); (case hg => rfl); (case hr => first | (go_simp; done) | (go_simp; rfl)); intro gb189 hg w28 hbox hb; replace BK189 := ak (hbox); replace GW189 := ak ((by rw [hg]; exact bsz_ : w.heap.size ≤ gb189)); replace HB := ak (bst_ hb); replace GE189 := GW189; clear hb hbox hg) | ((with_reducible refine gate_callee (f := 26) rfl ?_); refine goesL_ (some 9) rfl rfl Try.func26 (by kernel_rfl) rfl #[.slice A0 l0.length c0] rfl mp_ ?_; (with_reducible refine (sleep_Right.calls k _ _ l0 false _ ?side1 ?side2 A3.out).mono ?_); (case side1 => repeat (first | exact (Kd.C_below HR0.out HB.out) | with_reducible first | refine Kd.C_alloc ?_ _ | refine Kd.C_drewN ?_ _ | refine Kd.C_drew ?_)); (case side2 => exact HC0.out); rintro e w29 ⟨rfl, hb⟩; refine ⟨_, rfl, ?_⟩; replace BK189 := bb_ BK189 hb; replace HB := ak (below_step bsw_ hb); (try clear hb); (try clear hb2); (try clear hk); (try clear hi)))
   go_ret
   exact ⟨_, by first | rfl | (simp [errW_none, errW_some] <;> rfl) | (simp [*, errW_none, errW_some] <;> rfl), by first | exact Kd.R_nil _ _ _ _ _ | exact Kd.N_nil _ _ _ _ _ | exact Kd.V_nil _ _ _ _ _ | exact Kd.Q_nil _ _ _ _ _ | exact Kd.S_nil _ _ _ _ _, bsw_⟩

-- NOT PRINTED: function 105 (slices_IndexFunc_105)

-- NOT PRINTED: function 88 (slices_ContainsFunc_88)

/-! ### heap_wrong: function 89 -/
def heap_wrong.f (a0_0 : Bool) (a0_1 : Int) : Option (Bool) := (span_Right.f a0_1).bind fun t201 => (if t201 = true then (if a0_0 = true then (some false) else (some (a0_1 != 0))) else (some true))
set_option maxHeartbeats 8000000 in
set_option maxRecDepth 100000 in
theorem heap_wrong.calls (a0_0 : Bool) (a0_1 : Int) (r : Bool) (w : World) (h : heap_wrong.f a0_0 a0_1 = some r) :
 Calls Try.prog 89 #[.agg #[.bool a0_0, .int .i64 a0_1]] w fun e w' => e = .returned (.bool r) ∧ Below w.heap.size w w' := by
 have hu98 := Try.underlying98
 have HB := ak (Below.refl w.heap.size w)
 have H : ((span_Right.f a0_1).bind fun t201 => (if t201 = true then (if a0_0 = true then (some false) else (some (a0_1 != 0))) else (some true))) = some r := h
 clear h
 obtain ⟨t201, A2, H⟩ := bd_ H
 by_cases c3 : t201 = true
 · subst c3
   rw [if_pos rfl] at H
   by_cases c4 : a0_0 = true
   · subst c4
     rw [if_pos rfl] at H
     obtain rfl := Option.some.inj H
     go_enter Try.func89, Try.ntmps89
     go_wp2_with (first | ((with_reducible refine gate_dst (N := 1) rfl ?_); refine box_event ?hg (N := 1) ?hd (cs := #[.bool true, .int .i64 a0_1]) (t := 98) ?hr ?_; (case hd => rfl); (case hg => rfl); (case hr => first | (go_simp; done) | (go_simp; rfl)); intro gb200 hg w5 hbox hb; replace BK200 := ak (hbox); replace GW200 := ak ((by rw [hg]; exact bsz_ : w.heap.size ≤ gb200)); replace HB := ak (bst_ hb); replace GE200 := GW200; clear hb hbox hg; obtain ⟨hcz6_0, hcz6_1, hfz6_0, hfz6_1⟩ := bz2_ BK200) | ((with_reducible refine gate_callee (f := 59) rfl ?_); refine goesL_ (some 5) rfl rfl Try.func59 (by kernel_rfl) rfl #[.int .i64 a0_1] rfl mp_ ?_; (with_reducible refine (span_Right.calls a0_1 true _ A2.out).mono ?_); rintro e w' ⟨rfl, ⟨nd, rfl⟩⟩; refine ⟨_, rfl, ?_⟩))
     go_ret
     exact ⟨by first | rfl | (simp [errW_none, errW_some] <;> rfl) | (simp [*, errW_none, errW_some] <;> rfl), bsw_⟩
   · replace c4 := Bool.eq_false_iff.mpr c4
     subst c4
     rw [if_neg (show ¬ (false = true) by decide)] at H
     obtain rfl := Option.some.inj H
     go_enter Try.func89, Try.ntmps89
     go_wp2_with (first | ((with_reducible refine gate_dst (N := 1) rfl ?_); refine box_event ?hg (N := 1) ?hd (cs := #[.bool false, .int .i64 a0_1]) (t := 98) ?hr ?_; (case hd => rfl); (case hg => rfl); (case hr => first | (go_simp; done) | (go_simp; rfl)); intro gb200 hg w7 hbox hb; replace BK200 := ak (hbox); replace GW200 := ak ((by rw [hg]; exact bsz_ : w.heap.size ≤ gb200)); replace HB := ak (bst_ hb); replace GE200 := GW200; clear hb hbox hg; obtain ⟨hcz8_0, hcz8_1, hfz8_0, hfz8_1⟩ := bz2_ BK200) | ((with_reducible refine gate_callee (f := 59) rfl ?_); refine goesL_ (some 5) rfl rfl Try.func59 (by kernel_rfl) rfl #[.int .i64 a0_1] rfl mp_ ?_; (with_reducible refine (span_Right.calls a0_1 true _ A2.out).mono ?_); rintro e w' ⟨rfl, ⟨nd, rfl⟩⟩; refine ⟨_, rfl, ?_⟩))
     go_ret
     exact ⟨by first | rfl | (simp [errW_none, errW_some] <;> rfl) | (simp [*, errW_none, errW_some] <;> rfl), bsw_⟩
 · replace c3 := Bool.eq_false_iff.mpr c3
   subst c3
   rw [if_neg (show ¬ (false = true) by decide)] at H
   obtain rfl := Option.some.inj H
   go_enter Try.func89, Try.ntmps89
   go_wp2_with (first | ((with_reducible refine gate_dst (N := 1) rfl ?_); refine box_event ?hg (N := 1) ?hd (cs := #[.bool a0_0, .int .i64 a0_1]) (t := 98) ?hr ?_; (case hd => rfl); (case hg => rfl); (case hr => first | (go_simp; done) | (go_simp; rfl)); intro gb200 hg w9 hbox hb; replace BK200 := ak (hbox); replace GW200 := ak ((by rw [hg]; exact bsz_ : w.heap.size ≤ gb200)); replace HB := ak (bst_ hb); replace GE200 := GW200; clear hb hbox hg; obtain ⟨hcz10_0, hcz10_1, hfz10_0, hfz10_1⟩ := bz2_ BK200) | ((with_reducible refine gate_callee (f := 59) rfl ?_); refine goesL_ (some 5) rfl rfl Try.func59 (by kernel_rfl) rfl #[.int .i64 a0_1] rfl mp_ ?_; (with_reducible refine (span_Right.calls a0_1 false _ A2.out).mono ?_); rintro e w' ⟨rfl, ⟨nd, rfl⟩⟩; refine ⟨_, rfl, ?_⟩))
   go_ret
   exact ⟨by first | rfl | (simp [errW_none, errW_some] <;> rfl) | (simp [*, errW_none, errW_some] <;> rfl), bsw_⟩

/-! ### ho105: slices.IndexFunc, function 105, at whatever function value that reads -/
set_option maxHeartbeats 2000000 in
theorem ho105 (p : S98 → Option Bool) (g : Nat) (la lb : Array Value) (eg : ∀ args w, (callFunc g args).run Try.prog w = .ok (.enter g args) w) (A0 : Option Addr) (c0 : Nat) (l0 : List S98) (r : Int) (w : World)
 (hr0 : Kd.C k98 w A0 l0.length l0)
 (hp : ∀ (W : World) (x : S98) (b : Bool), Below w.heap.size w W → p x = some b → Calls Try.prog g (la ++ #[.agg #[.bool x.f0, .int .i64 x.f1]] ++ lb) W fun e W' => e = .returned (.bool b) ∧ Below W.heap.size W W')
 (h : idxF p l0 0 = some r) :
 Calls Try.prog 105 #[.slice A0 l0.length c0, .func (.func g) la lb] w fun e w' => e = .returned (.int .i64 r) ∧ Below w.heap.size w w' := by
 have hmax : l0.length ≤ 9223372036854775807 := Kd.C_max hr0
 have hread : ∀ (W : World), Below w.heap.size w W → ∀ j : Nat, j < l0.length → ∃ ad, A0 = some ad ∧ W.cell? (ad.add (j * 2)) = some (.bool ((rd_T98 l0 j).f0)) ∧ W.cell? ⟨(ad.add (j * 2)).block, (ad.add (j * 2)).off + 1, none⟩ = some (.int .i64 ((rd_T98 l0 j).f1)) := by
  intro W hW j hj
  have := at_T98 (Kd.C_below hr0 hW) (j : Int) (by omega) (by omega)
  simpa only [Int.toNat_natCast] using this
 generalize hn : l0.length = n at *
 have HR := ak hread
 have HP := ak hp
 have HH := ak h
 clear hread hp h hr0
 have HN := ak hn
 clear hn
 go_enter Try.func105, Try.ntmps105
 go_wp2
 go_loopg [5, 8] n (fun gg _ s8 wr => ∃ kk : Nat, kk ≤ n ∧ n - kk ≤ gg ∧ s8 = .int .i64 kk ∧ Aside0 (Below w.heap.size w wr) ∧ Aside0 (idxF p (l0.drop kk) kk = some r))
 case atStart => exact ⟨0, Nat.zero_le _, by omega, rfl, ⟨Below.refl _ w⟩, ⟨HH.out⟩⟩
 case round =>
  obtain ⟨kk, hkk, hg, rfl, BW, HI⟩ := hrel
  by_cases hlt : kk < n
  · have hltz : (kk : Int) < (n : Int) := by omega
    obtain ⟨ad, e0, q0, q1⟩ := HR.out wr BW.out kk hlt
    have hi := HI.out
    rw [idxF_drop p l0 z98 kk (by rw [HN.out]; exact hlt)] at hi
    obtain ⟨b, hb, hi⟩ := Option.bind_eq_some_iff.mp hi
    have hcall := HP.out wr _ b BW.out hb
    (try rw [show l0.getD kk z98 = rd_T98 l0 kk from rfl] at hcall)
    generalize rd_T98 l0 kk = y at q0 q1 hcall
    subst e0
    clear hb HI
    cases b with
    | true =>
     have hi2 : (kk : Int) = r := by simpa using hi
     clear hi
     have HE := ak hi2
     clear hi2
     go_wp2_with (go_at_fn g; refine hcall.mono ?_; rintro e w' ⟨rfl, hb'⟩)
     go_ret
     exact ⟨by first | rfl | (rw [← HE.out]; rfl) | simp [HE.out], BW.out.trans (hb'.mono BW.out.size)⟩
    | false =>
     have hi2 : idxF p (l0.drop (kk + 1)) (kk + 1) = some r := by simpa using hi
     clear hi
     have HE := ak hi2
     clear hi2
     go_wp2_with (go_at_fn g; refine hcall.mono ?_; rintro e w' ⟨rfl, hb'⟩)
     go_roundg (n - (kk + 1))
     case measure => omega
     case rel =>
      exact ⟨kk + 1, by omega, by omega, by go_num, ⟨BW.out.trans (hb'.mono BW.out.size)⟩, ⟨HE.out⟩⟩
  · have hltz : ¬ (kk : Int) < (n : Int) := by omega
    have : kk = n := by omega
    subst this
    have hi := HI.out
    rw [List.drop_of_length_le (by rw [HN.out]; omega)] at hi
    have hi2 : -1 = r := by simpa [idxF] using hi
    clear hi HI
    have HE := ak hi2
    clear hi2
    go_wp2
    go_ret
    exact ⟨by first | rfl | (rw [← HE.out]; rfl) | simp [HE.out], BW.out⟩

/-! ### ho88: slices.ContainsFunc, function 88 -/
set_option maxHeartbeats 2000000 in
theorem ho88 (p : S98 → Option Bool) (g : Nat) (la lb : Array Value) (eg : ∀ args w, (callFunc g args).run Try.prog w = .ok (.enter g args) w) (A0 : Option Addr) (c0 : Nat) (l0 : List S98) (r : Bool) (w : World)
 (hr0 : Kd.C k98 w A0 l0.length l0)
 (hp : ∀ (W : World) (x : S98) (b : Bool), Below w.heap.size w W → p x = some b → Calls Try.prog g (la ++ #[.agg #[.bool x.f0, .int .i64 x.f1]] ++ lb) W fun e W' => e = .returned (.bool b) ∧ Below W.heap.size W W')
 (h : anyF p l0 = some r) :
 Calls Try.prog 88 #[.slice A0 l0.length c0, .func (.func g) la lb] w fun e w' => e = .returned (.bool r) ∧ Below w.heap.size w w' := by
 obtain ⟨i, hi, hd⟩ := any_idx l0 0 r (by decide) h
 have hc := ak (ho105 p g la lb eg A0 c0 l0 i w hr0 hp hi)
 have HD := ak hd
 clear hd hi h hp hr0 eg
 go_enter Try.func88, Try.ntmps88
 go_wp2_with (go_at_call 105; refine hc.out.mono ?_; rintro e w' ⟨rfl, hb⟩)
 go_ret
 exact ⟨by first | rfl | (rw [← HD.out]; rfl) | simp [HD.out], hb⟩

/-! ### any_at_heap_wrong: function 88 at the function value 89 -/
def any_at_heap_wrong.f (l0 : List (S98)) : Option (Bool) := anyF (fun x => heap_wrong.f  x.f0 x.f1) l0
theorem any_at_heap_wrong.calls (A0 : Option Addr) (c0 : Nat) (l0 : List (S98)) (r : Bool) (w : World) (hr0 : Kd.C k98 w A0 l0.length l0) (hc0 : l0.length ≤ c0) (h : any_at_heap_wrong.f l0 = some r) :
 Calls Try.prog 88 #[.slice A0 l0.length c0, .func (.func 89) #[] #[]] w fun e w' => e = .returned (.bool r) ∧ Below w.heap.size w w' :=
 ho88 (fun x => heap_wrong.f  x.f0 x.f1) 89 #[] #[] (enters_of Try.func89 (by kernel_rfl) rfl) A0 c0 l0 r w hr0 (fun W x b hW_ hx => by
  show Calls Try.prog 89 #[.agg #[.bool x.f0, .int .i64 x.f1]] W _
  exact (heap_wrong.calls  x.f0 x.f1 b W hx).mono (fun e W' ⟨he, hd⟩ => ⟨he, hd⟩)) h

/-! ### heap_Right: function 61 -/
def heap_Right.f (l0 : List (S98)) : Option (Bool) := if (l0.length : Int) ≥ 1 then (if (l0.length : Int) ≤ 64 then ((any_at_heap_wrong.f l0).bind fun t202 => (some (!t202))) else (some false)) else (some false)
set_option maxHeartbeats 8000000 in
set_option maxRecDepth 100000 in
theorem heap_Right.calls (A0 : Option Addr) (c0 : Nat) (l0 : List (S98)) (r : Bool) (w : World) (hr0 : Kd.C k98 w A0 l0.length l0) (hc0 : l0.length ≤ c0) (h : heap_Right.f l0 = some r) :
 Calls Try.prog 61 #[.slice A0 l0.length c0] w fun e w' => e = .returned (.bool r) ∧ Below w.heap.size w w' := by
 have HR0 := ak hr0
 have HC0 := ak hc0
 clear hr0 hc0
 have HB := ak (Below.refl w.heap.size w)
 have H : (if (l0.length : Int) ≥ 1 then (if (l0.length : Int) ≤ 64 then ((any_at_heap_wrong.f l0).bind fun t202 => (some (!t202))) else (some false)) else (some false)) = some r := h
 clear h
 by_cases c2 : (l0.length : Int) ≥ 1
 · rw [if_pos c2] at H
   have c2b0 : decide (1 ≤ (l0.length : Int)) = true := decide_eq_true c2
   have c2b1 : decide (1 ≤ l0.length) = true := decide_eq_true (by omega)
   clear c2
   by_cases c3 : (l0.length : Int) ≤ 64
   · rw [if_pos c3] at H
     have c3b0 : decide ((l0.length : Int) ≤ 64) = true := decide_eq_true c3
     have c3b1 : decide (l0.length ≤ 64) = true := decide_eq_true (by omega)
     clear c3
     obtain ⟨t202, A4, H⟩ := bd_ H
     obtain rfl := Option.some.inj H
     go_enter Try.func61, Try.ntmps61
     go_wp2_with (first | (go_at_call 88; (with_reducible refine (any_at_heap_wrong.calls _ _ l0 t202 _ ?side1 ?side2 A4.out).mono ?_); (case side1 => repeat (first | exact HR0.out | with_reducible first | refine Kd.C_alloc ?_ _ | refine Kd.C_drewN ?_ _ | refine Kd.C_drew ?_)); (case side2 => exact HC0.out); rintro e w5 ⟨rfl, hb⟩; replace HB := ak (bst_ hb); (try clear hb); (try clear hb2); (try clear hk); (try clear hi)))
     go_ret
     exact ⟨by first | rfl | (simp [errW_none, errW_some] <;> rfl) | (simp [*, errW_none, errW_some] <;> rfl), bsv_⟩
   · rw [if_neg c3] at H
     have c3b0 : decide ((l0.length : Int) ≤ 64) = false := decide_eq_false c3
     have c3b1 : decide (l0.length ≤ 64) = false := decide_eq_false (by omega)
     clear c3
     obtain rfl := Option.some.inj H
     go_enter Try.func61, Try.ntmps61
     go_wp2
     go_ret
     exact ⟨by first | rfl | (simp [errW_none, errW_some] <;> rfl) | (simp [*, errW_none, errW_some] <;> rfl), bsv_⟩
 · rw [if_neg c2] at H
   have c2b0 : decide (1 ≤ (l0.length : Int)) = false := decide_eq_false c2
   have c2b1 : decide (1 ≤ l0.length) = false := decide_eq_false (by omega)
   clear c2
   obtain rfl := Option.some.inj H
   go_enter Try.func61, Try.ntmps61
   go_wp2
   go_ret
   exact ⟨by first | rfl | (simp [errW_none, errW_some] <;> rfl) | (simp [*, errW_none, errW_some] <;> rfl), bsv_⟩

/-! ### filter_always: function 90 -/
def filter_always.f (a0_0 : Int) (a0_1 : Int) (a0_2 : Int) (l0_3 : List (S62)) (l0_4 : List (S80)) (l1 : List (S98)) : Option (Bool) := some true
set_option maxHeartbeats 8000000 in
set_option maxRecDepth 100000 in
theorem filter_always.calls (a0_0 : Int) (a0_1 : Int) (a0_2 : Int) (A0_3 : Option Addr) (c0_3 : Nat) (l0_3 : List (S62)) (A0_4 : Option Addr) (c0_4 : Nat) (l0_4 : List (S80)) (A1 : Option Addr) (c1 : Nat) (l1 : List (S98)) (r : Bool) (w : World) (hr0_3 : Kd.C k62 w A0_3 l0_3.length l0_3) (hc0_3 : l0_3.length ≤ c0_3) (hr0_4 : Kd.C k80 w A0_4 l0_4.length l0_4) (hc0_4 : l0_4.length ≤ c0_4) (hr1 : Kd.C k98 w A1 l1.length l1) (hc1 : l1.length ≤ c1) (h : filter_always.f a0_0 a0_1 a0_2 l0_3 l0_4 l1 = some r) :
 Calls Try.prog 90 #[.agg #[.int .i64 a0_0, .int .i64 a0_1, .int .i64 a0_2, .slice A0_3 l0_3.length c0_3, .slice A0_4 l0_4.length c0_4], .slice A1 l1.length c1] w fun e w' => e = .returned (.bool r) ∧ Below w.heap.size w w' := by
 have hu26 := Try.underlying26
 have HR0_3 := ak hr0_3
 have HC0_3 := ak hc0_3
 clear hr0_3 hc0_3
 have HR0_4 := ak hr0_4
 have HC0_4 := ak hc0_4
 clear hr0_4 hc0_4
 have HR1 := ak hr1
 have HC1 := ak hc1
 clear hr1 hc1
 have HB := ak (Below.refl w.heap.size w)
 have H : (some true) = some r := h
 clear h
 obtain rfl := Option.some.inj H
 go_enter Try.func90, Try.ntmps90
 go_wp2_with (first | ((with_reducible refine gate_dst (N := 2) rfl ?_); refine box_event ?hg (N := 2) ?hd (cs := #[.int .i64 a0_0, .int .i64 a0_1, .int .i64 a0_2, .slice A0_3 l0_3.length c0_3, .slice A0_4 l0_4.length c0_4]) (t := 26) ?hr ?_; (case hd => rfl); (case hg => rfl); (case hr => first | (go_simp; done) | (go_simp; rfl)); intro gb203 hg w3 hbox hb; replace BK203 := ak (hbox); replace GW203 := ak ((by rw [hg]; exact bsz_ : w.heap.size ≤ gb203)); replace HB := ak (bst_ hb); replace GE203 := GW203; clear hb hbox hg))
 go_ret
 exact ⟨by first | rfl | (simp [errW_none, errW_some] <;> rfl) | (simp [*, errW_none, errW_some] <;> rfl), bsw_⟩

-- NOT PRINTED: function 93 (slices_IndexFunc_93)

-- NOT PRINTED: function 63 (slices_ContainsFunc_63)

/-! ### heap_there: function 66 -/
def heap_there.f (l0 : List (S98)) (a1 : Int) : Option (Bool) := if a1 ≥ 0 then (if a1 < (l0.length : Int) then (if 0 ≤ a1 then (some ((rd_T98 l0 a1).f0)) else (none)) else (some false)) else (some false)
set_option maxHeartbeats 8000000 in
set_option maxRecDepth 100000 in
theorem heap_there.calls (A0 : Option Addr) (c0 : Nat) (l0 : List (S98)) (a1 : Int) (r : Bool) (w : World) (hr0 : Kd.C k98 w A0 l0.length l0) (hc0 : l0.length ≤ c0) (h : heap_there.f l0 a1 = some r) :
 Calls Try.prog 66 #[.slice A0 l0.length c0, .int .i64 a1] w fun e w' => e = .returned (.bool r) ∧ Drawn0 w w' := by
 have HR0 := ak hr0
 have HC0 := ak hc0
 clear hr0 hc0
 have H : (if a1 ≥ 0 then (if a1 < (l0.length : Int) then (if 0 ≤ a1 then (some ((rd_T98 l0 a1).f0)) else (none)) else (some false)) else (some false)) = some r := h
 clear h
 by_cases c3 : a1 ≥ 0
 · rw [if_pos c3] at H
   have c3b0 : decide (0 ≤ a1) = true := decide_eq_true c3
   clear c3
   by_cases c4 : a1 < (l0.length : Int)
   · rw [if_pos c4] at H
     have c4b0 : decide (a1 < (l0.length : Int)) = true := decide_eq_true c4
     clear c4
     by_cases c5 : 0 ≤ a1
     · rw [if_pos c5] at H
       have c5b0 : decide (0 ≤ a1) = true := decide_eq_true c5
       clear c5
       obtain rfl := Option.some.inj H
       have p204 : 0 ≤ (a1 : Int) := oda_
       have q204 : a1 < (l0.length : Int) := oda_
       obtain ⟨ad204, e204, hx204_0, hx204_1⟩ := at_T98 HR0.out a1 p204 q204
       cases e204
       replace p204 := eq_true p204
       replace q204 := eq_true q204
       go_enter Try.func66, Try.ntmps66
       go_wp2
       go_ret
       exact ⟨by first | rfl | (simp; done) | (simp [*]; done), by repeat (first | exact Drawn0.refl _ | apply Drawn0.step)⟩
     · rw [if_neg c5] at H
       exact absurd H (by simp)
   · rw [if_neg c4] at H
     have c4b0 : decide (a1 < (l0.length : Int)) = false := decide_eq_false c4
     clear c4
     obtain rfl := Option.some.inj H
     go_enter Try.func66, Try.ntmps66
     go_wp2
     go_ret
     exact ⟨by first | rfl | (simp; done) | (simp [*]; done), by repeat (first | exact Drawn0.refl _ | apply Drawn0.step)⟩
 · rw [if_neg c3] at H
   have c3b0 : decide (0 ≤ a1) = false := decide_eq_false c3
   clear c3
   obtain rfl := Option.some.inj H
   go_enter Try.func66, Try.ntmps66
   go_wp2
   go_ret
   exact ⟨by first | rfl | (simp; done) | (simp [*]; done), by repeat (first | exact Drawn0.refl _ | apply Drawn0.step)⟩

/-! ### heap_Get: function 107 -/
def heap_Get.f (l0 : List (S98)) (a1 : Int) : Option (Int × Int) := (heap_Right.f l0).bind fun t205 => (if t205 = true then ((heap_there.f l0 a1).bind fun t206 => (if t206 = true then (if 0 ≤ a1 then (if a1 < (l0.length : Int) then (some ((rd_T98 l0 a1).f1, 0)) else (none)) else (none)) else (some (0, 3)))) else (some (0, 1)))
set_option maxHeartbeats 8000000 in
set_option maxRecDepth 100000 in
theorem heap_Get.calls (A0 : Option Addr) (c0 : Nat) (l0 : List (S98)) (a1 : Int) (r1 : Int) (r2 : Int) (w : World) (hr0 : Kd.C k98 w A0 l0.length l0) (hc0 : l0.length ≤ c0) (h : heap_Get.f l0 a1 = some (r1, r2)) :
 Calls Try.prog 107 #[.slice A0 l0.length c0, .int .i64 a1] w fun e w' => e = .returned (.tuple #[.int .i64 r1, .int .i64 r2]) ∧ Below w.heap.size w w' := by
 have HR0 := ak hr0
 have HC0 := ak hc0
 clear hr0 hc0
 have HB := ak (Below.refl w.heap.size w)
 have H : ((heap_Right.f l0).bind fun t205 => (if t205 = true then ((heap_there.f l0 a1).bind fun t206 => (if t206 = true then (if 0 ≤ a1 then (if a1 < (l0.length : Int) then (some ((rd_T98 l0 a1).f1, 0)) else (none)) else (none)) else (some (0, 3)))) else (some (0, 1)))) = some (r1, r2) := h
 clear h
 obtain ⟨t205, A3, H⟩ := bd_ H
 by_cases c4 : t205 = true
 · subst c4
   rw [if_pos rfl] at H
   obtain ⟨t206, A5, H⟩ := bd_ H
   by_cases c6 : t206 = true
   · subst c6
     rw [if_pos rfl] at H
     by_cases c7 : 0 ≤ a1
     · rw [if_pos c7] at H
       have c7b0 : decide (0 ≤ a1) = true := decide_eq_true c7
       clear c7
       by_cases c8 : a1 < (l0.length : Int)
       · rw [if_pos c8] at H
         have c8b0 : decide (a1 < (l0.length : Int)) = true := decide_eq_true c8
         clear c8
         simp only [Option.some.injEq, Prod.mk.injEq] at H
         obtain ⟨rfl, rfl⟩ := H
         go_enter Try.func107, Try.ntmps107
         go_wp2_with (first | ((with_reducible refine gate_callee (f := 61) rfl ?_); refine goesL_ (some 8) rfl rfl Try.func61 (by kernel_rfl) rfl #[.slice A0 l0.length c0] rfl mp_ ?_; (with_reducible refine (heap_Right.calls _ _ l0 true _ ?side1 ?side2 A3.out).mono ?_); (case side1 => repeat (first | exact HR0.out | with_reducible first | refine Kd.C_alloc ?_ _ | refine Kd.C_drewN ?_ _ | refine Kd.C_drew ?_)); (case side2 => exact HC0.out); rintro e w9 ⟨rfl, hb⟩; refine ⟨_, rfl, ?_⟩; replace HB := ak (bst_ hb); (try clear hb); (try clear hb2); (try clear hk); (try clear hi)) | ((with_reducible refine gate_callee (f := 66) rfl ?_); refine goesL_ (some 13) rfl rfl Try.func66 (by kernel_rfl) rfl #[.slice A0 l0.length c0, .int .i64 a1] rfl mp_ ?_; (with_reducible refine (heap_there.calls _ _ l0 a1 true _ ?side1 ?side2 A5.out).mono ?_); (case side1 => repeat (first | exact (Kd.C_below HR0.out HB.out) | with_reducible first | refine Kd.C_alloc ?_ _ | refine Kd.C_drewN ?_ _ | refine Kd.C_drew ?_)); (case side2 => exact HC0.out); rintro e w' ⟨rfl, ⟨nd, rfl⟩⟩; refine ⟨_, rfl, ?_⟩; have p207 : 0 ≤ (a1 : Int) := oda_; have q207 : a1 < (l0.length : Int) := oda_; obtain ⟨ad207, e207, hx207_0, hx207_1⟩ := at_T98 HR0.out a1 p207 q207; cases e207; replace hx207_0 := bl_ HB hx207_0; replace hx207_1 := bl_ HB hx207_1; replace p207 := eq_true p207; replace q207 := eq_true q207))
         go_ret2
         exact ⟨by first | rfl | (simp [errW_none, errW_some] <;> rfl) | (simp [*, errW_none, errW_some] <;> rfl), bsv_⟩
       · rw [if_neg c8] at H
         exact absurd H (by simp)
     · rw [if_neg c7] at H
       exact absurd H (by simp)
   · replace c6 := Bool.eq_false_iff.mpr c6
     subst c6
     rw [if_neg (show ¬ (false = true) by decide)] at H
     simp only [Option.some.injEq, Prod.mk.injEq] at H
     obtain ⟨rfl, rfl⟩ := H
     go_enter Try.func107, Try.ntmps107
     go_wp2_with (first | ((with_reducible refine gate_callee (f := 61) rfl ?_); refine goesL_ (some 8) rfl rfl Try.func61 (by kernel_rfl) rfl #[.slice A0 l0.length c0] rfl mp_ ?_; (with_reducible refine (heap_Right.calls _ _ l0 true _ ?side1 ?side2 A3.out).mono ?_); (case side1 => repeat (first | exact HR0.out | with_reducible first | refine Kd.C_alloc ?_ _ | refine Kd.C_drewN ?_ _ | refine Kd.C_drew ?_)); (case side2 => exact HC0.out); rintro e w10 ⟨rfl, hb⟩; refine ⟨_, rfl, ?_⟩; replace HB := ak (bst_ hb); (try clear hb); (try clear hb2); (try clear hk); (try clear hi)) | ((with_reducible refine gate_callee (f := 66) rfl ?_); refine goesL_ (some 13) rfl rfl Try.func66 (by kernel_rfl) rfl #[.slice A0 l0.length c0, .int .i64 a1] rfl mp_ ?_; (with_reducible refine (heap_there.calls _ _ l0 a1 false _ ?side1 ?side2 A5.out).mono ?_); (case side1 => repeat (first | exact (Kd.C_below HR0.out HB.out) | with_reducible first | refine Kd.C_alloc ?_ _ | refine Kd.C_drewN ?_ _ | refine Kd.C_drew ?_)); (case side2 => exact HC0.out); rintro e w' ⟨rfl, ⟨nd, rfl⟩⟩; refine ⟨_, rfl, ?_⟩))
     go_ret2
     exact ⟨by first | rfl | (simp [errW_none, errW_some] <;> rfl) | (simp [*, errW_none, errW_some] <;> rfl), bsv_⟩
 · replace c4 := Bool.eq_false_iff.mpr c4
   subst c4
   rw [if_neg (show ¬ (false = true) by decide)] at H
   simp only [Option.some.injEq, Prod.mk.injEq] at H
   obtain ⟨rfl, rfl⟩ := H
   go_enter Try.func107, Try.ntmps107
   go_wp2_with (first | ((with_reducible refine gate_callee (f := 61) rfl ?_); refine goesL_ (some 8) rfl rfl Try.func61 (by kernel_rfl) rfl #[.slice A0 l0.length c0] rfl mp_ ?_; (with_reducible refine (heap_Right.calls _ _ l0 false _ ?side1 ?side2 A3.out).mono ?_); (case side1 => repeat (first | exact HR0.out | with_reducible first | refine Kd.C_alloc ?_ _ | refine Kd.C_drewN ?_ _ | refine Kd.C_drew ?_)); (case side2 => exact HC0.out); rintro e w11 ⟨rfl, hb⟩; refine ⟨_, rfl, ?_⟩; replace HB := ak (bst_ hb); (try clear hb); (try clear hb2); (try clear hk); (try clear hi)))
   go_ret2
   exact ⟨by first | rfl | (simp [errW_none, errW_some] <;> rfl) | (simp [*, errW_none, errW_some] <;> rfl), bsv_⟩

/-! ### filter_changed_1: function 106 -/
def filter_changed_1.f (a0_0 : Int) (a0_1 : Int) (l1 : List (S98)) : Option (Bool) := (heap_Get.f l1 a0_0).bind fun bt209 => (if bt209.2 = 0 then (some (bt209.1 != a0_1)) else (some true))
set_option maxHeartbeats 8000000 in
set_option maxRecDepth 100000 in
theorem filter_changed_1.calls (a0_0 : Int) (a0_1 : Int) (g1 : Nat) (A1 : Option Addr) (c1 : Nat) (l1 : List (S98)) (r : Bool) (w : World) (hr1 : Kd.C k98 w A1 l1.length l1) (hc1 : l1.length ≤ c1) (hb1 : w.heap[g1]? = some (.cells #[.slice A1 l1.length c1] 66 (0, 0))) (h : filter_changed_1.f a0_0 a0_1 l1 = some r) :
 Calls Try.prog 106 #[.agg #[.int .i64 a0_0, .int .i64 a0_1], .pointer (some ⟨g1, 0, none⟩)] w fun e w' => e = .returned (.bool r) ∧ Below w.heap.size w w' := by
 have hu62 := Try.underlying62
 have HR1 := ak hr1
 have HC1 := ak hc1
 clear hr1 hc1
 have BK1 := ak hb1
 clear hb1
 have HB := ak (Below.refl w.heap.size w)
 have H : ((heap_Get.f l1 a0_0).bind fun bt209 => (if bt209.2 = 0 then (some (bt209.1 != a0_1)) else (some true))) = some r := h
 clear h
 replace H := Option.bind_eq_some_iff.mp H
 obtain ⟨⟨t209, t210⟩, A30, H⟩ := H
 have A3 := ak A30
 clear A30
 by_cases c4 : t210 = 0
 · rw [if_pos c4] at H
   have c4b0 : (t210 == 0) = true := beq_iff_eq.mpr c4
   have c4b1 : (t210 != 0) = false := bne_eq_false_iff_eq.mpr c4
   clear c4
   obtain rfl := Option.some.inj H
   go_enter Try.func106, Try.ntmps106
   go_wp2_with (first | ((with_reducible refine gate_dst (N := 2) rfl ?_); refine box_event ?hg (N := 2) ?hd (cs := #[.int .i64 a0_0, .int .i64 a0_1]) (t := 62) ?hr ?_; (case hd => rfl); (case hg => rfl); (case hr => first | (go_simp; done) | (go_simp; rfl)); intro gb208 hg w5 hbox hb; replace BK208 := ak (hbox); replace GW208 := ak ((by rw [hg]; exact (below_size bsw_) : w.heap.size ≤ gb208)); replace HB := ak (below_step bsw_ hb); replace GE208 := GW208; replace NB1_208 := ak ((by rw [hg]; exact Nat.ne_of_lt (blk_lt (g := g1) (o := .cells #[.slice A1 l1.length c1] 66 (0, 0)) (bq_ BK1)) : g1 ≠ gb208)); replace NB208_1 := ak ((by rw [hg]; exact Nat.ne_of_gt (blk_lt (g := g1) (o := .cells #[.slice A1 l1.length c1] 66 (0, 0)) (bq_ BK1)) : gb208 ≠ g1)); replace BK1 := bb_ BK1 hb; clear hb hbox hg; have hnb6 := NB1_208.out; have hnc6 := NB208_1.out; obtain ⟨hcz7_0, hfz7_0⟩ := bz1_ BK1; obtain ⟨hcz8_0, hcz8_1, hfz8_0, hfz8_1⟩ := bz2_ BK208) | ((with_reducible refine gate_callee (f := 107) rfl ?_); refine goesL_ (some 10) rfl rfl Try.func107 (by kernel_rfl) rfl #[.slice A1 l1.length c1, .int .i64 a0_0] rfl mp_ ?_; (with_reducible refine (heap_Get.calls _ _ l1 a0_0 t209 t210 _ ?side1 ?side2 A3.out).mono ?_); (case side1 => repeat (first | exact (Kd.C_below HR1.out HB.out) | with_reducible first | refine Kd.C_alloc ?_ _ | refine Kd.C_drewN ?_ _ | refine Kd.C_drew ?_)); (case side2 => exact HC1.out); rintro e w9 ⟨rfl, hb⟩; refine ⟨_, rfl, ?_⟩; replace BK1 := bb_ BK1 hb; replace BK208 := bb_ BK208 hb; replace HB := ak (below_step (by repeat (first | (with_reducible first | exact HB.out | apply below_alloc | apply pw_below_drewN | apply below_drew1 | refine below_set ?_ GE1.out | refine below_set ?_ GE208.out) | exact HB.out)) hb); (try clear hb); (try clear hb2); (try clear hk); (try clear hi); obtain ⟨hcz10_0, hcz10_1, hfz10_0, hfz10_1⟩ := bz2_ BK208))
   go_ret
   exact ⟨by first | rfl | (simp [errW_none, errW_some] <;> rfl) | (simp [*, errW_none, errW_some] <;> rfl), by repeat (first | (with_reducible first | exact HB.out | apply below_alloc | apply pw_below_drewN | apply below_drew1 | refine below_set ?_ GE1.out | refine below_set ?_ GE208.out) | exact HB.out)⟩
 · rw [if_neg c4] at H
   have c4b0 : (t210 == 0) = false := beq_eq_false_iff_ne.mpr c4
   have c4b1 : (t210 != 0) = true := bne_iff_ne.mpr c4
   obtain rfl := Option.some.inj H
   go_enter Try.func106, Try.ntmps106
   go_wp2_with (first | ((with_reducible refine gate_dst (N := 2) rfl ?_); refine box_event ?hg (N := 2) ?hd (cs := #[.int .i64 a0_0, .int .i64 a0_1]) (t := 62) ?hr ?_; (case hd => rfl); (case hg => rfl); (case hr => first | (go_simp; done) | (go_simp; rfl)); intro gb208 hg w11 hbox hb; replace BK208 := ak (hbox); replace GW208 := ak ((by rw [hg]; exact (below_size bsw_) : w.heap.size ≤ gb208)); replace HB := ak (below_step bsw_ hb); replace GE208 := GW208; replace NB1_208 := ak ((by rw [hg]; exact Nat.ne_of_lt (blk_lt (g := g1) (o := .cells #[.slice A1 l1.length c1] 66 (0, 0)) (bq_ BK1)) : g1 ≠ gb208)); replace NB208_1 := ak ((by rw [hg]; exact Nat.ne_of_gt (blk_lt (g := g1) (o := .cells #[.slice A1 l1.length c1] 66 (0, 0)) (bq_ BK1)) : gb208 ≠ g1)); replace BK1 := bb_ BK1 hb; clear hb hbox hg; have hnb12 := NB1_208.out; have hnc12 := NB208_1.out; obtain ⟨hcz13_0, hfz13_0⟩ := bz1_ BK1; obtain ⟨hcz14_0, hcz14_1, hfz14_0, hfz14_1⟩ := bz2_ BK208) | ((with_reducible refine gate_callee (f := 107) rfl ?_); refine goesL_ (some 10) rfl rfl Try.func107 (by kernel_rfl) rfl #[.slice A1 l1.length c1, .int .i64 a0_0] rfl mp_ ?_; (with_reducible refine (heap_Get.calls _ _ l1 a0_0 t209 t210 _ ?side1 ?side2 A3.out).mono ?_); (case side1 => repeat (first | exact (Kd.C_below HR1.out HB.out) | with_reducible first | refine Kd.C_alloc ?_ _ | refine Kd.C_drewN ?_ _ | refine Kd.C_drew ?_)); (case side2 => exact HC1.out); rintro e w15 ⟨rfl, hb⟩; refine ⟨_, rfl, ?_⟩; replace BK1 := bb_ BK1 hb; replace BK208 := bb_ BK208 hb; replace HB := ak (below_step (by repeat (first | (with_reducible first | exact HB.out | apply below_alloc | apply pw_below_drewN | apply below_drew1 | refine below_set ?_ GE1.out | refine below_set ?_ GE208.out) | exact HB.out)) hb); (try clear hb); (try clear hb2); (try clear hk); (try clear hi)))
   go_ret
   exact ⟨by first | rfl | (simp [errW_none, errW_some] <;> rfl) | (simp [*, errW_none, errW_some] <;> rfl), by repeat (first | (with_reducible first | exact HB.out | apply below_alloc | apply pw_below_drewN | apply below_drew1 | refine below_set ?_ GE1.out | refine below_set ?_ GE208.out) | exact HB.out)⟩

/-! ### ho93: slices.IndexFunc, function 93, at whatever function value that reads -/
set_option maxHeartbeats 2000000 in
theorem ho93 (p : S62 → Option Bool) (g : Nat) (la lb : Array Value) (eg : ∀ args w, (callFunc g args).run Try.prog w = .ok (.enter g args) w) (A0 : Option Addr) (c0 : Nat) (l0 : List S62) (r : Int) (w : World)
 (hr0 : Kd.C k62 w A0 l0.length l0)
 (hp : ∀ (W : World) (x : S62) (b : Bool), Below w.heap.size w W → p x = some b → Calls Try.prog g (la ++ #[.agg #[.int .i64 x.f0, .int .i64 x.f1]] ++ lb) W fun e W' => e = .returned (.bool b) ∧ Below W.heap.size W W')
 (h : idxF p l0 0 = some r) :
 Calls Try.prog 93 #[.slice A0 l0.length c0, .func (.func g) la lb] w fun e w' => e = .returned (.int .i64 r) ∧ Below w.heap.size w w' := by
 have hmax : l0.length ≤ 9223372036854775807 := Kd.C_max hr0
 have hread : ∀ (W : World), Below w.heap.size w W → ∀ j : Nat, j < l0.length → ∃ ad, A0 = some ad ∧ W.cell? (ad.add (j * 2)) = some (.int .i64 ((rd_T62 l0 j).f0)) ∧ W.cell? ⟨(ad.add (j * 2)).block, (ad.add (j * 2)).off + 1, none⟩ = some (.int .i64 ((rd_T62 l0 j).f1)) := by
  intro W hW j hj
  have := at_T62 (Kd.C_below hr0 hW) (j : Int) (by omega) (by omega)
  simpa only [Int.toNat_natCast] using this
 generalize hn : l0.length = n at *
 have HR := ak hread
 have HP := ak hp
 have HH := ak h
 clear hread hp h hr0
 have HN := ak hn
 clear hn
 go_enter Try.func93, Try.ntmps93
 go_wp2
 go_loopg [5, 8] n (fun gg _ s8 wr => ∃ kk : Nat, kk ≤ n ∧ n - kk ≤ gg ∧ s8 = .int .i64 kk ∧ Aside0 (Below w.heap.size w wr) ∧ Aside0 (idxF p (l0.drop kk) kk = some r))
 case atStart => exact ⟨0, Nat.zero_le _, by omega, rfl, ⟨Below.refl _ w⟩, ⟨HH.out⟩⟩
 case round =>
  obtain ⟨kk, hkk, hg, rfl, BW, HI⟩ := hrel
  by_cases hlt : kk < n
  · have hltz : (kk : Int) < (n : Int) := by omega
    obtain ⟨ad, e0, q0, q1⟩ := HR.out wr BW.out kk hlt
    have hi := HI.out
    rw [idxF_drop p l0 z62 kk (by rw [HN.out]; exact hlt)] at hi
    obtain ⟨b, hb, hi⟩ := Option.bind_eq_some_iff.mp hi
    have hcall := HP.out wr _ b BW.out hb
    (try rw [show l0.getD kk z62 = rd_T62 l0 kk from rfl] at hcall)
    generalize rd_T62 l0 kk = y at q0 q1 hcall
    subst e0
    clear hb HI
    cases b with
    | true =>
     have hi2 : (kk : Int) = r := by simpa using hi
     clear hi
     have HE := ak hi2
     clear hi2
     go_wp2_with (go_at_fn g; refine hcall.mono ?_; rintro e w' ⟨rfl, hb'⟩)
     go_ret
     exact ⟨by first | rfl | (rw [← HE.out]; rfl) | simp [HE.out], BW.out.trans (hb'.mono BW.out.size)⟩
    | false =>
     have hi2 : idxF p (l0.drop (kk + 1)) (kk + 1) = some r := by simpa using hi
     clear hi
     have HE := ak hi2
     clear hi2
     go_wp2_with (go_at_fn g; refine hcall.mono ?_; rintro e w' ⟨rfl, hb'⟩)
     go_roundg (n - (kk + 1))
     case measure => omega
     case rel =>
      exact ⟨kk + 1, by omega, by omega, by go_num, ⟨BW.out.trans (hb'.mono BW.out.size)⟩, ⟨HE.out⟩⟩
  · have hltz : ¬ (kk : Int) < (n : Int) := by omega
    have : kk = n := by omega
    subst this
    have hi := HI.out
    rw [List.drop_of_length_le (by rw [HN.out]; omega)] at hi
    have hi2 : -1 = r := by simpa [idxF] using hi
    clear hi HI
    have HE := ak hi2
    clear hi2
    go_wp2
    go_ret
    exact ⟨by first | rfl | (rw [← HE.out]; rfl) | simp [HE.out], BW.out⟩

/-! ### ho63: slices.ContainsFunc, function 63 -/
set_option maxHeartbeats 2000000 in
theorem ho63 (p : S62 → Option Bool) (g : Nat) (la lb : Array Value) (eg : ∀ args w, (callFunc g args).run Try.prog w = .ok (.enter g args) w) (A0 : Option Addr) (c0 : Nat) (l0 : List S62) (r : Bool) (w : World)
 (hr0 : Kd.C k62 w A0 l0.length l0)
 (hp : ∀ (W : World) (x : S62) (b : Bool), Below w.heap.size w W → p x = some b → Calls Try.prog g (la ++ #[.agg #[.int .i64 x.f0, .int .i64 x.f1]] ++ lb) W fun e W' => e = .returned (.bool b) ∧ Below W.heap.size W W')
 (h : anyF p l0 = some r) :
 Calls Try.prog 63 #[.slice A0 l0.length c0, .func (.func g) la lb] w fun e w' => e = .returned (.bool r) ∧ Below w.heap.size w w' := by
 obtain ⟨i, hi, hd⟩ := any_idx l0 0 r (by decide) h
 have hc := ak (ho93 p g la lb eg A0 c0 l0 i w hr0 hp hi)
 have HD := ak hd
 clear hd hi h hp hr0 eg
 go_enter Try.func63, Try.ntmps63
 go_wp2_with (go_at_call 93; refine hc.out.mono ?_; rintro e w' ⟨rfl, hb⟩)
 go_ret
 exact ⟨by first | rfl | (rw [← HD.out]; rfl) | simp [HD.out], hb⟩

/-! ### any_at_filter_changed_1: function 63 at the function value 106 -/
def any_at_filter_changed_1.f (l0 : List (S62)) (l1 : List (S98)) : Option (Bool) := anyF (fun x => filter_changed_1.f  x.f0 x.f1 l1) l0
theorem any_at_filter_changed_1.calls (A0 : Option Addr) (c0 : Nat) (l0 : List (S62)) (g1 : Nat) (A1 : Option Addr) (c1 : Nat) (l1 : List (S98)) (r : Bool) (w : World) (hr0 : Kd.C k62 w A0 l0.length l0) (hc0 : l0.length ≤ c0) (hr1 : Kd.C k98 w A1 l1.length l1) (hc1 : l1.length ≤ c1) (hb1 : w.heap[g1]? = some (.cells #[.slice A1 l1.length c1] 66 (0, 0))) (h : any_at_filter_changed_1.f l0 l1 = some r) :
 Calls Try.prog 63 #[.slice A0 l0.length c0, .func (.func 106) #[] #[.pointer (some ⟨g1, 0, none⟩)]] w fun e w' => e = .returned (.bool r) ∧ Below w.heap.size w w' :=
 ho63 (fun x => filter_changed_1.f  x.f0 x.f1 l1) 106 #[] #[.pointer (some ⟨g1, 0, none⟩)] (enters_of Try.func106 (by kernel_rfl) rfl) A0 c0 l0 r w hr0 (fun W x b hW_ hx => by
  show Calls Try.prog 106 #[.agg #[.int .i64 x.f0, .int .i64 x.f1], .pointer (some ⟨g1, 0, none⟩)] W _
  exact (filter_changed_1.calls  x.f0 x.f1 g1 A1 c1 l1 b W (Kd.C_below hr1 hW_) hc1 (hW_.block g1 (by have := (Array.getElem?_eq_some_iff.1 hb1).1; exact this) ▸ hb1) hx).mono (fun e W' ⟨he, hd⟩ => ⟨he, hd⟩)) h

/-! ### filter_changed: function 91 -/
def filter_changed.f (a0_0 : Int) (a0_1 : Int) (a0_2 : Int) (l0_3 : List (S62)) (l0_4 : List (S80)) (l1 : List (S98)) : Option (Bool) := (any_at_filter_changed_1.f l0_3 l1).bind fun t213 => (some t213)
set_option maxHeartbeats 8000000 in
set_option maxRecDepth 100000 in
theorem filter_changed.calls (a0_0 : Int) (a0_1 : Int) (a0_2 : Int) (A0_3 : Option Addr) (c0_3 : Nat) (l0_3 : List (S62)) (A0_4 : Option Addr) (c0_4 : Nat) (l0_4 : List (S80)) (A1 : Option Addr) (c1 : Nat) (l1 : List (S98)) (r : Bool) (w : World) (hr0_3 : Kd.C k62 w A0_3 l0_3.length l0_3) (hc0_3 : l0_3.length ≤ c0_3) (hr0_4 : Kd.C k80 w A0_4 l0_4.length l0_4) (hc0_4 : l0_4.length ≤ c0_4) (hr1 : Kd.C k98 w A1 l1.length l1) (hc1 : l1.length ≤ c1) (h : filter_changed.f a0_0 a0_1 a0_2 l0_3 l0_4 l1 = some r) :
 Calls Try.prog 91 #[.agg #[.int .i64 a0_0, .int .i64 a0_1, .int .i64 a0_2, .slice A0_3 l0_3.length c0_3, .slice A0_4 l0_4.length c0_4], .slice A1 l1.length c1] w fun e w' => e = .returned (.bool r) ∧ Below w.heap.size w w' := by
 have hu26 := Try.underlying26
 have HR0_3 := ak hr0_3
 have HC0_3 := ak hc0_3
 clear hr0_3 hc0_3
 have HR0_4 := ak hr0_4
 have HC0_4 := ak hc0_4
 clear hr0_4 hc0_4
 have HR1 := ak hr1
 have HC1 := ak hc1
 clear hr1 hc1
 have HB := ak (Below.refl w.heap.size w)
 have H : ((any_at_filter_changed_1.f l0_3 l1).bind fun t213 => (some t213)) = some r := h
 clear h
 obtain ⟨t213, A3, H⟩ := bd_ H
 obtain rfl := Option.some.inj H
 go_enter Try.func91, Try.ntmps91
 go_wp2_with (first | ((with_reducible refine gate_dst (N := 2) rfl ?_); refine box_event ?hg (N := 2) ?hd (cs := #[.int .i64 a0_0, .int .i64 a0_1, .int .i64 a0_2, .slice A0_3 l0_3.length c0_3, .slice A0_4 l0_4.length c0_4]) (t := 26) ?hr ?_; (case hd => rfl); (case hg => rfl); (case hr => first | (go_simp; done) | (go_simp; rfl)); intro gb211 hg w4 hbox hb; replace BK211 := ak (hbox); replace GW211 := ak ((by rw [hg]; exact bsz_ : w.heap.size ≤ gb211)); replace HB := ak (bst_ hb); replace GE211 := GW211; clear hb hbox hg) | ((with_reducible refine gate_dst (N := 3) rfl ?_); refine box_event ?hg (N := 3) ?hd (cs := #[.slice A1 l1.length c1]) (t := 66) ?hr ?_; (case hd => rfl); (case hg => rfl); (case hr => first | (go_simp; done) | (go_simp; rfl)); intro gb212 hg w5 hbox hb; replace BK212 := ak (hbox); replace GW212 := ak ((by rw [hg]; exact (below_size bsw_) : w.heap.size ≤ gb212)); replace HB := ak (below_step bsw_ hb); replace GE212 := GW212; replace NB211_212 := ak ((by rw [hg]; exact Nat.ne_of_lt (blk_lt (g := gb211) (o := .cells #[.int .i64 a0_0, .int .i64 a0_1, .int .i64 a0_2, .slice A0_3 l0_3.length c0_3, .slice A0_4 l0_4.length c0_4] 26 (0, 0)) (bq_ BK211)) : gb211 ≠ gb212)); replace NB212_211 := ak ((by rw [hg]; exact Nat.ne_of_gt (blk_lt (g := gb211) (o := .cells #[.int .i64 a0_0, .int .i64 a0_1, .int .i64 a0_2, .slice A0_3 l0_3.length c0_3, .slice A0_4 l0_4.length c0_4] 26 (0, 0)) (bq_ BK211)) : gb212 ≠ gb211)); replace BK211 := bb_ BK211 hb; clear hb hbox hg; have hnb6 := NB211_212.out; have hnc6 := NB212_211.out; obtain ⟨hcz7_0, hcz7_1, hcz7_2, hcz7_3, hcz7_4, hfz7_0, hfz7_1, hfz7_2, hfz7_3, hfz7_4⟩ := bz5_ BK211) | ((with_reducible refine gate_callee (f := 63) rfl ?_); refine goesL_ (some 8) rfl rfl Try.func63 (by kernel_rfl) rfl #[.slice A0_3 l0_3.length c0_3, .func (.func 106) #[] #[.pointer (some ⟨gb212, 0, none⟩)]] rfl mp_ ?_; (with_reducible refine (any_at_filter_changed_1.calls _ _ l0_3 gb212 A1 c1 l1 t213 _ ?side1 ?side2 ?side3 ?side4 ?side5 A3.out).mono ?_); (case side1 => repeat (first | exact (Kd.C_below HR0_3.out HB.out) | with_reducible first | refine Kd.C_alloc ?_ _ | refine Kd.C_drewN ?_ _ | refine Kd.C_drew ?_)); (case side2 => exact HC0_3.out); (case side3 => repeat (first | exact (Kd.C_below HR1.out HB.out) | with_reducible first | refine Kd.C_alloc ?_ _ | refine Kd.C_drewN ?_ _ | refine Kd.C_drew ?_)); (case side4 => exact HC1.out); (case side5 => exact (bq_ BK212)); rintro e w8 ⟨rfl, hb⟩; refine ⟨_, rfl, ?_⟩; replace BK211 := bb_ BK211 hb; replace BK212 := bb_ BK212 hb; replace HB := ak (below_step (by repeat (first | (with_reducible first | exact HB.out | apply below_alloc | apply pw_below_drewN | apply below_drew1 | refine below_set ?_ GE211.out | refine below_set ?_ GE212.out) | exact HB.out)) hb); (try clear hb); (try clear hb2); (try clear hk); (try clear hi)))
 go_ret
 exact ⟨by first | rfl | (simp [errW_none, errW_some] <;> rfl) | (simp [*, errW_none, errW_some] <;> rfl), by repeat (first | (with_reducible first | exact HB.out | apply below_alloc | apply pw_below_drewN | apply below_drew1 | refine below_set ?_ GE211.out | refine below_set ?_ GE212.out) | exact HB.out)⟩

/-! ### span_Wrap: function 130 -/
def span_Wrap.f (a0 : Int) : Option (Int) := some (wrap64 (wrap32 ((IntKind.u64.wrap (a0)) % 4294967296)))
set_option maxHeartbeats 8000000 in
set_option maxRecDepth 100000 in
theorem span_Wrap.calls (a0 : Int) (r : Int) (w : World) (h : span_Wrap.f a0 = some r) :
 Calls Try.prog 130 #[.int .i64 a0] w fun e w' => e = .returned (.int .i64 r) ∧ Drawn0 w w' := by
 have H : (some (wrap64 (wrap32 ((IntKind.u64.wrap (a0)) % 4294967296)))) = some r := h
 clear h
 obtain rfl := Option.some.inj H
 go_enter Try.func130, Try.ntmps130
 go_wp2
 go_ret
 exact ⟨by first | rfl | (simp; done) | (simp [*]; done), by repeat (first | exact Drawn0.refl _ | apply Drawn0.step)⟩

end Go.Proofs.Ytjnkpocfmpbpoaa.F
