-- PRINTED by print.py (a twelfth state) out of the translation. Not trusted: Lean checks it.
import Derived.Test.YtbcpnbmegaodbaaCox0
import Derived.Test.YtbcpnbmegaodbaaCox1
import Derived.Test.YtbcpnbmegaodbaaCox2
import Derived.Test.YtbcpnbmegaodbaaCox3
namespace Go.Proofs.Ytbcpnbmegaodbaa.Co
open Go.Proofs.Ytbcpnbmegaodbaa.Ho
open Go.RowKit Go.Proofs.YtbcpnbmegaodbaaW.PrintWords Go.Proofs.YtbcpnbmegaodbaaW.PrintLast Go.Proofs.YtbcpnbmegaodbaaW.PrintMore
attribute [local go_sem] max2_int min2_int max_two min_two max_three min_three max_four min_four   -- for this text's walks alone
set_option linter.unusedVariables false
set_option linter.unusedSimpArgs false

/-! ### ho58: slices.IndexFunc, function 58, at whatever function value that reads -/
set_option maxHeartbeats 2000000 in
theorem ho58 (p : S37 → Option Bool) (g : Nat) (lb : Array Value) (eg : ∀ args w, (callFunc g args).run Try.prog w = .ok (.enter g args) w) (A0 : Option Addr) (c0 : Nat) (l0 : List S37) (r : Int) (w : World)
 (hr0 : Kd.C k37 w A0 l0.length l0)
 (hp : ∀ (W : World) (x : S37) (A3 : Option Addr) (e3 : Nat) (b : Bool), Below w.heap.size w W → x.f3.length ≤ e3 → Kd.C k41 W A3 x.f3.length x.f3 → p x = some b → Calls Try.prog g (#[.agg #[.int .i64 x.f0, .int .i64 x.f1, .int .i64 x.f2, .slice A3 x.f3.length e3]] ++ lb) W fun e W' => e = .returned (.bool b) ∧ Below W.heap.size W W')
 (h : idxF p l0 0 = some r) :
 Calls Try.prog 58 #[.slice A0 l0.length c0, .func (.func g) #[] lb] w fun e w' => e = .returned (.int .i64 r) ∧ Below w.heap.size w w' := by
 have hmax : l0.length ≤ 9223372036854775807 := Kd.C_max hr0
 have hread : ∀ (W : World), Below w.heap.size w W → ∀ j : Nat, j < l0.length → ∃ ad A3 e3, A0 = some ad ∧ W.cell? (ad.add (j * 4)) = some (.int .i64 ((rd_T37 l0 j).f0)) ∧ W.cell? ⟨(ad.add (j * 4)).block, (ad.add (j * 4)).off + 1, none⟩ = some (.int .i64 ((rd_T37 l0 j).f1)) ∧ W.cell? ⟨(ad.add (j * 4)).block, (ad.add (j * 4)).off + 2, none⟩ = some (.int .i64 ((rd_T37 l0 j).f2)) ∧ W.cell? ⟨(ad.add (j * 4)).block, (ad.add (j * 4)).off + 3, none⟩ = some (.slice A3 (rd_T37 l0 j).f3.length e3) ∧ (rd_T37 l0 j).f3.length ≤ e3 ∧ Kd.C k41 W A3 (rd_T37 l0 j).f3.length (rd_T37 l0 j).f3 := by
  intro W hW j hj
  have := at_T37 (Kd.C_below hr0 hW) (j : Int) (by omega) (by omega)
  simpa only [Int.toNat_natCast] using this
 generalize hn : l0.length = n at *
 have HR := Aside0.mk hread
 have HP := Aside0.mk hp
 have HH := Aside0.mk h
 clear hread hp h hr0
 have HN := Aside0.mk hn
 clear hn
 go_enter Try.func58, Try.ntmps58
 go_wp2
 go_loopg [5, 8] n (fun gg _ s8 wr => ∃ kk : Nat, kk ≤ n ∧ n - kk ≤ gg ∧ s8 = .int .i64 kk ∧ Aside0 (Below w.heap.size w wr) ∧ Aside0 (idxF p (l0.drop kk) kk = some r))
 case atStart => exact ⟨0, Nat.zero_le _, by omega, rfl, ⟨Below.refl _ w⟩, ⟨HH.out⟩⟩
 case round =>
  obtain ⟨kk, hkk, hg, rfl, BW, HI⟩ := hrel
  by_cases hlt : kk < n
  · have hltz : (kk : Int) < (n : Int) := by omega
    obtain ⟨ad, A3, e3, e0, q0, q1, q2, q3, hl3, hs3⟩ := HR.out wr BW.out kk hlt
    have hi := HI.out
    rw [idxF_drop p l0 z37 kk (by rw [HN.out]; exact hlt)] at hi
    obtain ⟨b, hb, hi⟩ := Option.bind_eq_some_iff.mp hi
    have hcall := HP.out wr _ A3 e3 b BW.out hl3 hs3 hb
    (try rw [show l0.getD kk z37 = rd_T37 l0 kk from rfl] at hcall)
    generalize rd_T37 l0 kk = y at q0 q1 q2 q3 hl3 hs3 hcall
    subst e0
    clear hb HI
    cases b with
    | true =>
     have hi2 : (kk : Int) = r := by simpa using hi
     clear hi
     have HE := Aside0.mk hi2
     clear hi2
     go_wp2_with (go_at_fn g; refine hcall.mono ?_; rintro e w' ⟨rfl, hb'⟩)
     go_ret
     exact ⟨by first | rfl | (rw [← HE.out]; rfl) | simp [HE.out], BW.out.trans (hb'.mono BW.out.size)⟩
    | false =>
     have hi2 : idxF p (l0.drop (kk + 1)) (kk + 1) = some r := by simpa using hi
     clear hi
     have HE := Aside0.mk hi2
     clear hi2
     go_wp2_with (go_at_fn g; refine hcall.mono ?_; rintro e w' ⟨rfl, hb'⟩)
     go_roundg (n - (kk + 1))
     case measure => omega
     case rel =>
      exact ⟨kk + 1, by omega, by omega, by go_num, ⟨BW.out.trans (hb'.mono BW.out.size)⟩, ⟨HE.out⟩⟩
  · have hltz : ¬ (kk : Int) < (n : Int) := by omega
    have : kk = n := by omega
    subst this
    have hi := HI.out
    rw [List.drop_of_length_le (by rw [HN.out]; omega)] at hi
    have hi2 : -1 = r := by simpa [idxF] using hi
    clear hi HI
    have HE := Aside0.mk hi2
    clear hi2
    go_wp2
    go_ret
    exact ⟨by first | rfl | (rw [← HE.out]; rfl) | simp [HE.out], BW.out⟩

/-! ### ho36: slices.ContainsFunc, function 36 -/
set_option maxHeartbeats 2000000 in
theorem ho36 (p : S37 → Option Bool) (g : Nat) (lb : Array Value) (eg : ∀ args w, (callFunc g args).run Try.prog w = .ok (.enter g args) w) (A0 : Option Addr) (c0 : Nat) (l0 : List S37) (r : Bool) (w : World)
 (hr0 : Kd.C k37 w A0 l0.length l0)
 (hp : ∀ (W : World) (x : S37) (A3 : Option Addr) (e3 : Nat) (b : Bool), Below w.heap.size w W → x.f3.length ≤ e3 → Kd.C k41 W A3 x.f3.length x.f3 → p x = some b → Calls Try.prog g (#[.agg #[.int .i64 x.f0, .int .i64 x.f1, .int .i64 x.f2, .slice A3 x.f3.length e3]] ++ lb) W fun e W' => e = .returned (.bool b) ∧ Below W.heap.size W W')
 (h : anyF p l0 = some r) :
 Calls Try.prog 36 #[.slice A0 l0.length c0, .func (.func g) #[] lb] w fun e w' => e = .returned (.bool r) ∧ Below w.heap.size w w' := by
 obtain ⟨i, hi, hd⟩ := any_idx l0 0 r (by decide) h
 have hc := Aside0.mk (ho58 p g lb eg A0 c0 l0 i w hr0 hp hi)
 have HD := Aside0.mk hd
 clear hd hi h hp hr0 eg
 go_enter Try.func36, Try.ntmps36
 go_wp2_with (go_at_call 58; refine hc.out.mono ?_; rintro e w' ⟨rfl, hb⟩)
 go_ret
 exact ⟨by first | rfl | (rw [← HD.out]; rfl) | simp [HD.out], hb⟩

/-! ### any_at_code_Check_1: function 36 at the function value 37 -/
def any_at_code_Check_1.f (k : Nat) (l0 : List (S37)) : Option (Bool) := anyF (fun x => code_Check_1.f k x.f0 x.f1 x.f2 x.f3) l0
theorem any_at_code_Check_1.mono : ∀ a0 k, LeO (any_at_code_Check_1.f k a0) (any_at_code_Check_1.f (k + 1) a0) := by
 intro a0 k
 unfold any_at_code_Check_1.f
 exact anyF_mono (fun x => code_Check_1.mono x.f0 x.f1 x.f2 x.f3 k) a0
theorem any_at_code_Check_1.calls (k : Nat) (A0 : Option Addr) (c0 : Nat) (l0 : List (S37)) (r : Bool) (w : World) (hr0 : Kd.C k37 w A0 l0.length l0) (hc0 : l0.length ≤ c0) (h : any_at_code_Check_1.f k l0 = some r) :
 Calls Try.prog 36 #[.slice A0 l0.length c0, .func (.func 37) #[] #[]] w fun e w' => e = .returned (.bool r) ∧ Below w.heap.size w w' :=
 ho36 (fun x => code_Check_1.f k x.f0 x.f1 x.f2 x.f3) 37 #[] (enters_of Try.func37 (by kernel_rfl) rfl) A0 c0 l0 r w hr0 (fun W x A3 e3 b _ hl3 hs3 hx => by
  show Calls Try.prog 37 #[.agg #[.int .i64 x.f0, .int .i64 x.f1, .int .i64 x.f2, .slice A3 x.f3.length e3]] W _
  exact (code_Check_1.calls k x.f0 x.f1 x.f2 A3 e3 x.f3 b W hs3 hl3 hx).mono (fun e W' ⟨he, hd⟩ => ⟨he, hd⟩)) h

/-! ### code_Check: function 18 -/
def code_Check.j0 : Nat → List (S37) → Bool → Option (Int)
 | 0, _, _ => none
 | k + 1, x0, x10 => if x10 = true then (some 1) else ((code_deep.f k x0).bind fun t159 => (if t159 < 0 then (some 2) else (if t159 > 6 then (some 5) else (some 0))))
def code_Check.f (k : Nat) (l0 : List (S37)) : Option (Int) := if (l0.length : Int) > 24 then (code_Check.j0 k l0 true) else ((any_at_code_Check_1.f k l0).bind fun t158 => (code_Check.j0 k l0 t158))
theorem code_Check.mono_l : ∀ k, (∀ y0 y1, LeO (code_Check.j0 k y0 y1) (code_Check.j0 (k + 1) y0 y1))
 | 0 => fun _ _ r h => by simp [code_Check.j0] at h
 | k + 1 => by
  have ih0 := code_Check.mono_l k
  · intro y0 y1
    unfold code_Check.j0
    repeat' first
    | (with_reducible exact ih0 _ _)
    | (with_reducible exact any_at_code_Check_1.mono _ _)
    | (with_reducible exact code_deep.mono _ _)
    | (with_reducible exact LeO.refl _)
    | (with_reducible exact LeO.none _)
    | (with_reducible refine LeO.ite ?_ ?_)
    | (with_reducible refine LeO.bind ?_ (fun _ => ?_))
    | exact ih0 _ _
    | exact any_at_code_Check_1.mono _ _
    | exact code_deep.mono _ _
    | exact LeO.none _
    | refine LeO.ite ?_ ?_
    | refine LeO.bind ?_ (fun _ => ?_)
theorem code_Check.mono : ∀ a0 k, LeO (code_Check.f k a0) (code_Check.f (k + 1) a0) := by
 intro a0 k
 have ih0 := code_Check.mono_l k
 unfold code_Check.f
 repeat' first
  | (with_reducible exact ih0 _ _)
  | (with_reducible exact any_at_code_Check_1.mono _ _)
  | (with_reducible exact code_deep.mono _ _)
  | (with_reducible exact LeO.refl _)
  | (with_reducible exact LeO.none _)
  | (with_reducible refine LeO.ite ?_ ?_)
  | (with_reducible refine LeO.bind ?_ (fun _ => ?_))
  | exact ih0 _ _
  | exact any_at_code_Check_1.mono _ _
  | exact code_deep.mono _ _
  | exact LeO.none _
  | refine LeO.ite ?_ ?_
  | refine LeO.bind ?_ (fun _ => ?_)
set_option maxHeartbeats 8000000 in
set_option maxRecDepth 100000 in
theorem code_Check.calls (k : Nat) (A0 : Option Addr) (c0 : Nat) (l0 : List (S37)) (r : Int) (w : World) (hr0 : Kd.C k37 w A0 l0.length l0) (hc0 : l0.length ≤ c0) (h : code_Check.f k l0 = some r) :
 Calls Try.prog 18 #[.slice A0 l0.length c0] w fun e w' => e = .returned (.int .i64 r) ∧ Below w.heap.size w w' := by
 have HR0 := Aside0.mk hr0
 have HC0 := Aside0.mk hc0
 clear hr0 hc0
 have HB := Aside0.mk (Below.refl w.heap.size w)
 have H : (if (l0.length : Int) > 24 then (code_Check.j0 k l0 true) else ((any_at_code_Check_1.f k l0).bind fun t158 => (code_Check.j0 k l0 t158))) = some r := h
 clear h
 have HC2 := Aside0.mk H
 clear H
 go_enter Try.func18, Try.ntmps18
 go_upto_region 1 with (fail)
 go_cut [10] (fun v10 wc => ∃ (kq : Nat) (x10_1 : Bool), v10 = .bool x10_1 ∧ Aside0 (code_Check.j0 kq l0 x10_1 = some r) ∧ Aside0 (kq ≤ k) ∧ Aside0 (Below w.heap.size w wc))
 case first =>
  have H := HC2.out
  clear HC2
  by_cases c3 : (l0.length : Int) > 24
  · rw [if_pos c3] at H
    have c3b0 : decide (24 < (l0.length : Int)) = true := decide_eq_true c3
    have c3b1 : decide (24 < l0.length) = true := decide_eq_true (by omega)
    clear c3
    (first | rw [c3b0] | (simp only [i64_w, i32_w]; rw [c3b0]) | skip)
    have H' := Aside0.mk H
    clear H
    go_wp2
    go_meet
    case rel => exact ⟨_, (true), (by first | rfl | (simp; done) | (simp [*]; done)), H', ⟨by first | omega | exact Nat.le_refl _⟩, ⟨by repeat (with_reducible first | exact HB.out | apply below_alloc | apply pw_below_drewN | apply below_drew1)⟩⟩
  · rw [if_neg c3] at H
    have c3b0 : decide (24 < (l0.length : Int)) = false := decide_eq_false c3
    have c3b1 : decide (24 < l0.length) = false := decide_eq_false (by omega)
    clear c3
    (first | rw [c3b0] | (simp only [i64_w, i32_w]; rw [c3b0]) | skip)
    replace H := Option.bind_eq_some_iff.mp H
    obtain ⟨t158, A40, H⟩ := H
    replace H : (code_Check.j0 k l0 t158) = some r := H
    have A4 := Aside0.mk A40
    clear A40
    have H' := Aside0.mk H
    clear H
    go_wp2_with (first | (go_at_call 36; (with_reducible refine (any_at_code_Check_1.calls k _ _ l0 t158 _ ?side1 ?side2 A4.out).mono ?_); (case side1 => repeat (first | exact (Kd.C_below HR0.out HB.out) | with_reducible first | refine Kd.C_alloc ?_ _ | refine Kd.C_drewN ?_ _ | refine Kd.C_drew ?_)); (case side2 => exact HC0.out); rintro e w5 ⟨rfl, hb⟩; have n0_ := Aside0.mk (bst_ hb); clear HB; have HB := n0_; clear n0_; (try clear hb); (try clear hb2); (try clear hk); (try clear hi)))
    go_meet
    case rel => exact ⟨_, (t158), (by first | rfl | (simp; done) | (simp [*]; done)), H', ⟨by first | omega | exact Nat.le_refl _⟩, ⟨by repeat (with_reducible first | exact HB.out | apply below_alloc | apply pw_below_drewN | apply below_drew1)⟩⟩
 case rest =>
  clear HC2
  try clear c1
  try clear p2
  try clear c3
  try clear c3b0
  try clear c3b1
  obtain ⟨kq, x10_1, rfl, HA, HJ1, HB⟩ := hcut
  cases kq with
  | zero => exact absurd HA.out (by simp [code_Check.j0])
  | succ kj1 =>
   have H := HA.out
   clear HA
   simp only [code_Check.j0] at H
   by_cases c6 : x10_1 = true
   · subst c6
     have H1 : (some 1) = some r := by rw [if_pos rfl] at H; exact H
     clear H
     have H := H1
     clear H1
     obtain rfl := Option.some.inj H
     go_wp2
     go_ret
     exact ⟨by first | rfl | (simp [errW_none, errW_some] <;> rfl) | (simp [*, errW_none, errW_some] <;> rfl), by repeat (with_reducible first | exact HB.out | apply below_alloc | apply pw_below_drewN | apply below_drew1)⟩
   · replace c6 := Bool.eq_false_iff.mpr c6
     subst c6
     have H1 : ((code_deep.f kj1 l0).bind fun t159 => (if t159 < 0 then (some 2) else (if t159 > 6 then (some 5) else (some 0)))) = some r := by rw [if_neg (show ¬ (false = true) by decide)] at H; exact H
     clear H
     have H := H1
     clear H1
     replace H := Option.bind_eq_some_iff.mp H
     obtain ⟨t159, A70, H⟩ := H
     replace H : (if t159 < 0 then (some 2) else (if t159 > 6 then (some 5) else (some 0))) = some r := H
     have A7 := Aside0.mk A70
     clear A70
     by_cases c8 : t159 < 0
     · rw [if_pos c8] at H
       have c8b0 : decide (t159 < 0) = true := decide_eq_true c8
       clear c8
       obtain rfl := Option.some.inj H
       go_wp2_with (first | ((with_reducible refine gate_callee (f := 39) rfl ?_); refine goesL_ (some 12) rfl rfl Try.func39 (by kernel_rfl) rfl #[.slice A0 l0.length c0] rfl (by (try simp only [List.map_toArray, List.map_cons, List.map_nil]); first | done | rfl) ?_; (with_reducible refine (code_deep.calls kj1 _ _ l0 t159 _ ?side1 ?side2 A7.out).mono ?_); (case side1 => repeat (first | exact (Kd.C_below HR0.out HB.out) | with_reducible first | refine Kd.C_alloc ?_ _ | refine Kd.C_drewN ?_ _ | refine Kd.C_drew ?_)); (case side2 => exact HC0.out); rintro e w9 ⟨rfl, hb⟩; refine ⟨_, rfl, ?_⟩; have n0_ := Aside0.mk (bst_ hb); clear HB; have HB := n0_; clear n0_; (try clear hb); (try clear hb2); (try clear hk); (try clear hi)))
       go_ret
       exact ⟨by first | rfl | (simp [errW_none, errW_some] <;> rfl) | (simp [*, errW_none, errW_some] <;> rfl), by repeat (with_reducible first | exact HB.out | apply below_alloc | apply pw_below_drewN | apply below_drew1)⟩
     · rw [if_neg c8] at H
       have c8b0 : decide (t159 < 0) = false := decide_eq_false c8
       clear c8
       by_cases c10 : t159 > 6
       · rw [if_pos c10] at H
         have c10b0 : decide (6 < t159) = true := decide_eq_true c10
         clear c10
         obtain rfl := Option.some.inj H
         go_wp2_with (first | ((with_reducible refine gate_callee (f := 39) rfl ?_); refine goesL_ (some 12) rfl rfl Try.func39 (by kernel_rfl) rfl #[.slice A0 l0.length c0] rfl (by (try simp only [List.map_toArray, List.map_cons, List.map_nil]); first | done | rfl) ?_; (with_reducible refine (code_deep.calls kj1 _ _ l0 t159 _ ?side1 ?side2 A7.out).mono ?_); (case side1 => repeat (first | exact (Kd.C_below HR0.out HB.out) | with_reducible first | refine Kd.C_alloc ?_ _ | refine Kd.C_drewN ?_ _ | refine Kd.C_drew ?_)); (case side2 => exact HC0.out); rintro e w11 ⟨rfl, hb⟩; refine ⟨_, rfl, ?_⟩; have n0_ := Aside0.mk (bst_ hb); clear HB; have HB := n0_; clear n0_; (try clear hb); (try clear hb2); (try clear hk); (try clear hi)))
         go_ret
         exact ⟨by first | rfl | (simp [errW_none, errW_some] <;> rfl) | (simp [*, errW_none, errW_some] <;> rfl), by repeat (with_reducible first | exact HB.out | apply below_alloc | apply pw_below_drewN | apply below_drew1)⟩
       · rw [if_neg c10] at H
         have c10b0 : decide (6 < t159) = false := decide_eq_false c10
         clear c10
         obtain rfl := Option.some.inj H
         go_wp2_with (first | ((with_reducible refine gate_callee (f := 39) rfl ?_); refine goesL_ (some 12) rfl rfl Try.func39 (by kernel_rfl) rfl #[.slice A0 l0.length c0] rfl (by (try simp only [List.map_toArray, List.map_cons, List.map_nil]); first | done | rfl) ?_; (with_reducible refine (code_deep.calls kj1 _ _ l0 t159 _ ?side1 ?side2 A7.out).mono ?_); (case side1 => repeat (first | exact (Kd.C_below HR0.out HB.out) | with_reducible first | refine Kd.C_alloc ?_ _ | refine Kd.C_drewN ?_ _ | refine Kd.C_drew ?_)); (case side2 => exact HC0.out); rintro e w12 ⟨rfl, hb⟩; refine ⟨_, rfl, ?_⟩; have n0_ := Aside0.mk (bst_ hb); clear HB; have HB := n0_; clear n0_; (try clear hb); (try clear hb2); (try clear hk); (try clear hi)))
         go_ret
         exact ⟨by first | rfl | (simp [errW_none, errW_some] <;> rfl) | (simp [*, errW_none, errW_some] <;> rfl), by repeat (with_reducible first | exact HB.out | apply below_alloc | apply pw_below_drewN | apply below_drew1)⟩

/-! ### code_Deep: function 20 -/
def code_Deep.f (k : Nat) (l0 : List (S37)) : Option (Int) := (code_Check.f k l0).bind fun t160 => (if t160 = 0 then ((code_deep.f k l0).bind fun t161 => (some t161)) else (some 0))
theorem code_Deep.mono : ∀ a0 k, LeO (code_Deep.f k a0) (code_Deep.f (k + 1) a0) := by
 intro a0 k
 unfold code_Deep.f
 repeat' first
  | (with_reducible exact code_Check.mono _ _)
  | (with_reducible exact code_deep.mono _ _)
  | (with_reducible exact LeO.refl _)
  | (with_reducible exact LeO.none _)
  | (with_reducible refine LeO.ite ?_ ?_)
  | (with_reducible refine LeO.bind ?_ (fun _ => ?_))
  | exact code_Check.mono _ _
  | exact code_deep.mono _ _
  | exact LeO.none _
  | refine LeO.ite ?_ ?_
  | refine LeO.bind ?_ (fun _ => ?_)
set_option maxHeartbeats 8000000 in
set_option maxRecDepth 100000 in
theorem code_Deep.calls (k : Nat) (A0 : Option Addr) (c0 : Nat) (l0 : List (S37)) (r : Int) (w : World) (hr0 : Kd.C k37 w A0 l0.length l0) (hc0 : l0.length ≤ c0) (h : code_Deep.f k l0 = some r) :
 Calls Try.prog 20 #[.slice A0 l0.length c0] w fun e w' => e = .returned (.int .i64 r) ∧ Below w.heap.size w w' := by
 have HR0 := Aside0.mk hr0
 have HC0 := Aside0.mk hc0
 clear hr0 hc0
 have HB := Aside0.mk (Below.refl w.heap.size w)
 have H : ((code_Check.f k l0).bind fun t160 => (if t160 = 0 then ((code_deep.f k l0).bind fun t161 => (some t161)) else (some 0))) = some r := h
 clear h
 replace H := Option.bind_eq_some_iff.mp H
 obtain ⟨t160, A20, H⟩ := H
 replace H : (if t160 = 0 then ((code_deep.f k l0).bind fun t161 => (some t161)) else (some 0)) = some r := H
 have A2 := Aside0.mk A20
 clear A20
 by_cases c3 : t160 = 0
 · rw [if_pos c3] at H
   have c3b0 : (t160 == 0) = true := beq_iff_eq.mpr c3
   have c3b1 : (t160 != 0) = false := bne_eq_false_iff_eq.mpr c3
   clear c3
   replace H := Option.bind_eq_some_iff.mp H
   obtain ⟨t161, A40, H⟩ := H
   replace H : (some t161) = some r := H
   have A4 := Aside0.mk A40
   clear A40
   obtain rfl := Option.some.inj H
   go_enter Try.func20, Try.ntmps20
   go_wp2_with (first | ((with_reducible refine gate_callee (f := 18) rfl ?_); refine goesL_ (some 4) rfl rfl Try.func18 (by kernel_rfl) rfl #[.slice A0 l0.length c0] rfl (by (try simp only [List.map_toArray, List.map_cons, List.map_nil]); first | done | rfl) ?_; (with_reducible refine (code_Check.calls k _ _ l0 t160 _ ?side1 ?side2 A2.out).mono ?_); (case side1 => repeat (first | exact HR0.out | with_reducible first | refine Kd.C_alloc ?_ _ | refine Kd.C_drewN ?_ _ | refine Kd.C_drew ?_)); (case side2 => exact HC0.out); rintro e w5 ⟨rfl, hb⟩; refine ⟨_, rfl, ?_⟩; have n0_ := Aside0.mk (bst_ hb); clear HB; have HB := n0_; clear n0_; (try clear hb); (try clear hb2); (try clear hk); (try clear hi)) | ((with_reducible refine gate_callee (f := 39) rfl ?_); refine goesL_ (some 7) rfl rfl Try.func39 (by kernel_rfl) rfl #[.slice A0 l0.length c0] rfl (by (try simp only [List.map_toArray, List.map_cons, List.map_nil]); first | done | rfl) ?_; (with_reducible refine (code_deep.calls k _ _ l0 t161 _ ?side1 ?side2 A4.out).mono ?_); (case side1 => repeat (first | exact (Kd.C_below HR0.out HB.out) | with_reducible first | refine Kd.C_alloc ?_ _ | refine Kd.C_drewN ?_ _ | refine Kd.C_drew ?_)); (case side2 => exact HC0.out); rintro e w6 ⟨rfl, hb⟩; refine ⟨_, rfl, ?_⟩; have n0_ := Aside0.mk (bst_ hb); clear HB; have HB := n0_; clear n0_; (try clear hb); (try clear hb2); (try clear hk); (try clear hi)))
   go_ret
   exact ⟨by first | rfl | (simp [errW_none, errW_some] <;> rfl) | (simp [*, errW_none, errW_some] <;> rfl), by repeat (with_reducible first | exact HB.out | apply below_alloc | apply pw_below_drewN | apply below_drew1)⟩
 · rw [if_neg c3] at H
   have c3b0 : (t160 == 0) = false := beq_eq_false_iff_ne.mpr c3
   have c3b1 : (t160 != 0) = true := bne_iff_ne.mpr c3
   obtain rfl := Option.some.inj H
   go_enter Try.func20, Try.ntmps20
   go_wp2_with (first | ((with_reducible refine gate_callee (f := 18) rfl ?_); refine goesL_ (some 4) rfl rfl Try.func18 (by kernel_rfl) rfl #[.slice A0 l0.length c0] rfl (by (try simp only [List.map_toArray, List.map_cons, List.map_nil]); first | done | rfl) ?_; (with_reducible refine (code_Check.calls k _ _ l0 t160 _ ?side1 ?side2 A2.out).mono ?_); (case side1 => repeat (first | exact HR0.out | with_reducible first | refine Kd.C_alloc ?_ _ | refine Kd.C_drewN ?_ _ | refine Kd.C_drew ?_)); (case side2 => exact HC0.out); rintro e w7 ⟨rfl, hb⟩; refine ⟨_, rfl, ?_⟩; have n0_ := Aside0.mk (bst_ hb); clear HB; have HB := n0_; clear n0_; (try clear hb); (try clear hb2); (try clear hk); (try clear hi)))
   go_ret
   exact ⟨by first | rfl | (simp [errW_none, errW_some] <;> rfl) | (simp [*, errW_none, errW_some] <;> rfl), by repeat (with_reducible first | exact HB.out | apply below_alloc | apply pw_below_drewN | apply below_drew1)⟩

/-! ### handshakerref03_Numbers: function 22 -/
def handshakerref03_Numbers.l0 : Nat → List Int → List Int → Int → Option (Bool)
 | 0, _, _, _ => none
 | k + 1, x0, x1, x5 => if x5 < (x0.length : Int) then (if 0 ≤ x5 then (if x5 < (x1.length : Int) then (if (rd x0 x5) = (rd x1 x5) then (handshakerref03_Numbers.l0 k x0 x1 (wrap64 (x5 + 1))) else (some false)) else (none)) else (none)) else (some true)
def handshakerref03_Numbers.f (k : Nat) (l0 : List Int) (l1 : List Int) : Option (Bool) := if (l0.length : Int) = (l1.length : Int) then (handshakerref03_Numbers.l0 k l0 l1 0) else (some false)
theorem handshakerref03_Numbers.mono_l : ∀ k, (∀ y0 y1 y2, LeO (handshakerref03_Numbers.l0 k y0 y1 y2) (handshakerref03_Numbers.l0 (k + 1) y0 y1 y2))
 | 0 => fun _ _ _ r h => by simp [handshakerref03_Numbers.l0] at h
 | k + 1 => by
  have ih0 := handshakerref03_Numbers.mono_l k
  · intro y0 y1 y2
    unfold handshakerref03_Numbers.l0
    repeat' first
    | (with_reducible exact ih0 _ _ _)
    | (with_reducible exact LeO.refl _)
    | (with_reducible exact LeO.none _)
    | (with_reducible refine LeO.ite ?_ ?_)
    | (with_reducible refine LeO.bind ?_ (fun _ => ?_))
    | exact ih0 _ _ _
    | exact LeO.none _
    | refine LeO.ite ?_ ?_
    | refine LeO.bind ?_ (fun _ => ?_)
theorem handshakerref03_Numbers.mono : ∀ a0 a1 k, LeO (handshakerref03_Numbers.f k a0 a1) (handshakerref03_Numbers.f (k + 1) a0 a1) := by
 intro a0 a1 k
 have ih0 := handshakerref03_Numbers.mono_l k
 unfold handshakerref03_Numbers.f
 repeat' first
  | (with_reducible exact ih0 _ _ _)
  | (with_reducible exact LeO.refl _)
  | (with_reducible exact LeO.none _)
  | (with_reducible refine LeO.ite ?_ ?_)
  | (with_reducible refine LeO.bind ?_ (fun _ => ?_))
  | exact ih0 _ _ _
  | exact LeO.none _
  | refine LeO.ite ?_ ?_
  | refine LeO.bind ?_ (fun _ => ?_)
set_option maxHeartbeats 8000000 in
set_option maxRecDepth 100000 in
theorem handshakerref03_Numbers.calls (k : Nat) (A0 : Option Addr) (c0 : Nat) (l0 : List Int) (A1 : Option Addr) (c1 : Nat) (l1 : List Int) (r : Bool) (w : World) (hr0 : Kd.C (Kd.int .i64) w A0 l0.length l0) (hc0 : l0.length ≤ c0) (hr1 : Kd.C (Kd.int .i64) w A1 l1.length l1) (hc1 : l1.length ≤ c1) (h : handshakerref03_Numbers.f k l0 l1 = some r) :
 Calls Try.prog 22 #[.slice A0 l0.length c0, .slice A1 l1.length c1] w fun e w' => e = .returned (.bool r) ∧ Drawn0 w w' := by
 have HR0 := Aside0.mk hr0
 have HC0 := Aside0.mk hc0
 clear hr0 hc0
 have HR1 := Aside0.mk hr1
 have HC1 := Aside0.mk hc1
 clear hr1 hc1
 have H : (if (l0.length : Int) = (l1.length : Int) then (handshakerref03_Numbers.l0 k l0 l1 0) else (some false)) = some r := h
 clear h
 by_cases c3 : (l0.length : Int) = (l1.length : Int)
 · rw [if_pos c3] at H
   have c3b0 : ((l0.length : Int) == (l1.length : Int)) = true := beq_iff_eq.mpr c3
   have c3b1 : ((l0.length : Int) != (l1.length : Int)) = false := bne_eq_false_iff_eq.mpr c3
   have c3b2 : (l0.length == l1.length) = true := by first | simpa using c3 | (simp at c3 ⊢; omega)
   clear c3
   have H' := Aside0.mk H
   clear H
   go_enter Try.func22, Try.ntmps22
   go_wp2
   repeat (go_quiet (fail); try go_wp2)
   go_loopg [5] k (fun kq v5 w' => ∃ (x5_1 : Int), v5 = .int .i64 x5_1 ∧ Aside0 (handshakerref03_Numbers.l0 kq l0 l1 x5_1 = some r) ∧ Aside0 (kq ≤ k) ∧ Drawn0 w w')
   case atStart => exact ⟨(0), (by first | rfl | (simp; done) | (simp [*]; done)), H', ⟨Nat.le_refl _⟩, by repeat (first | exact Drawn0.refl _ | apply Drawn0.step)⟩
   case round =>
    clear H'
    try clear c1
    try clear c2
    try clear p2
    try clear c3
    try clear c3b0
    try clear c3b1
    try clear c3b2
    obtain ⟨x5_1, rfl, HA, HK1, ⟨m1, rfl⟩⟩ := hrel
    cases gk with
    | zero => exact absurd HA.out (by simp [handshakerref03_Numbers.l0])
    | succ k1 =>
     have H := HA.out
     clear HA
     simp only [handshakerref03_Numbers.l0] at H
     by_cases c4 : x5_1 < (l0.length : Int)
     · rw [if_pos c4] at H
       have c4b0 : decide (x5_1 < (l0.length : Int)) = true := decide_eq_true c4
       clear c4
       by_cases c5 : 0 ≤ x5_1
       · rw [if_pos c5] at H
         have c5b0 : decide (0 ≤ x5_1) = true := decide_eq_true c5
         clear c5
         by_cases c6 : x5_1 < (l1.length : Int)
         · rw [if_pos c6] at H
           have c6b0 : decide (x5_1 < (l1.length : Int)) = true := decide_eq_true c6
           clear c6
           by_cases c7 : (rd l0 x5_1) = (rd l1 x5_1)
           · rw [if_pos c7] at H
             have c7b0 : ((rd l0 x5_1) == (rd l1 x5_1)) = true := beq_iff_eq.mpr c7
             have c7b1 : ((rd l0 x5_1) != (rd l1 x5_1)) = false := bne_eq_false_iff_eq.mpr c7
             clear c7
             have H' := Aside0.mk H
             clear H
             have p162 : 0 ≤ (x5_1 : Int) := of_decide_eq_true (by first | (with_reducible assumption) | assumption)
             have q162 : x5_1 < (l0.length : Int) := of_decide_eq_true (by first | (with_reducible assumption) | assumption)
             obtain ⟨ad162, e162, hx162_0⟩ := Kd.at_int HR0.out x5_1 p162 q162
             cases e162
             replace p162 := eq_true p162
             replace q162 := eq_true q162
             have p163 : 0 ≤ (x5_1 : Int) := of_decide_eq_true (by first | (with_reducible assumption) | assumption)
             have q163 : x5_1 < (l1.length : Int) := of_decide_eq_true (by first | (with_reducible assumption) | assumption)
             obtain ⟨ad163, e163, hx163_0⟩ := Kd.at_int HR1.out x5_1 p163 q163
             cases e163
             replace p163 := eq_true p163
             replace q163 := eq_true q163
             go_wp2
             repeat (go_quiet (fail); try go_wp2)
             go_roundg k1
             case measure => have := HK1.out; omega
             case rel => exact ⟨(wrap64 (x5_1 + 1)), (by first | rfl | (simp; done) | (simp [*]; done)), H', ⟨by have := HK1.out; omega⟩, by repeat (first | exact Drawn0.refl _ | apply Drawn0.step)⟩
           · rw [if_neg c7] at H
             have c7b0 : ((rd l0 x5_1) == (rd l1 x5_1)) = false := beq_eq_false_iff_ne.mpr c7
             have c7b1 : ((rd l0 x5_1) != (rd l1 x5_1)) = true := bne_iff_ne.mpr c7
             obtain rfl := Option.some.inj H
             have p162 : 0 ≤ (x5_1 : Int) := of_decide_eq_true (by first | (with_reducible assumption) | assumption)
             have q162 : x5_1 < (l0.length : Int) := of_decide_eq_true (by first | (with_reducible assumption) | assumption)
             obtain ⟨ad162, e162, hx162_0⟩ := Kd.at_int HR0.out x5_1 p162 q162
             cases e162
             replace p162 := eq_true p162
             replace q162 := eq_true q162
             have p163 : 0 ≤ (x5_1 : Int) := of_decide_eq_true (by first | (with_reducible assumption) | assumption)
             have q163 : x5_1 < (l1.length : Int) := of_decide_eq_true (by first | (with_reducible assumption) | assumption)
             obtain ⟨ad163, e163, hx163_0⟩ := Kd.at_int HR1.out x5_1 p163 q163
             cases e163
             replace p163 := eq_true p163
             replace q163 := eq_true q163
             go_wp2
             repeat (go_quiet (fail); try go_wp2)
             go_ret
             exact ⟨by first | rfl | (simp; done) | (simp [*]; done), by repeat (first | exact Drawn0.refl _ | apply Drawn0.step)⟩
         · rw [if_neg c6] at H
           exact absurd H (by simp)
       · rw [if_neg c5] at H
         exact absurd H (by simp)
     · rw [if_neg c4] at H
       have c4b0 : decide (x5_1 < (l0.length : Int)) = false := decide_eq_false c4
       clear c4
       obtain rfl := Option.some.inj H
       go_wp2
       repeat (go_quiet (fail); try go_wp2)
       go_ret
       exact ⟨by first | rfl | (simp; done) | (simp [*]; done), by repeat (first | exact Drawn0.refl _ | apply Drawn0.step)⟩
 · rw [if_neg c3] at H
   have c3b0 : ((l0.length : Int) == (l1.length : Int)) = false := beq_eq_false_iff_ne.mpr c3
   have c3b1 : ((l0.length : Int) != (l1.length : Int)) = true := bne_iff_ne.mpr c3
   have c3b2 : (l0.length == l1.length) = false := by first | simpa using c3 | (simp at c3 ⊢; omega)
   obtain rfl := Option.some.inj H
   go_enter Try.func22, Try.ntmps22
   go_wp2
   repeat (go_quiet (fail); try go_wp2)
   go_ret
   exact ⟨by first | rfl | (simp; done) | (simp [*]; done), by repeat (first | exact Drawn0.refl _ | apply Drawn0.step)⟩

/-! ### code_Cells: function 23 -/
def code_Cells.l0 : Nat → List Int → List (S37) → Int → Int → Option (List Int)
 | 0, _, _, _, _ => none
 | k + 1, x3, x9, x10, x11 => if x11 < x10 then (if 0 ≤ x11 then (if x11 < (x9.length : Int) then (if ((rd_T37 x9 x11).f0) = 1 then (if x3.length < 17592186044416 then (code_Cells.l0 k (x3 ++ [(rd_T37 x9 x11).f2]) x9 x10 (wrap64 (x11 + 1))) else (none)) else (if ((rd_T37 x9 x11).f0) = 3 then (if x3.length < 17592186044416 then (code_Cells.l0 k (x3 ++ [(rd_T37 x9 x11).f1]) x9 x10 (wrap64 (x11 + 1))) else (none)) else (code_Cells.l0 k x3 x9 x10 (wrap64 (x11 + 1))))) else (none)) else (none)) else ((slices_Sort.f x3).bind fun t165 => ((slices_Compact.f t165).bind fun t166 => (some t166)))
def code_Cells.f (k : Nat) (l0 : List (S37)) : Option (List Int) := (code_Check.f k l0).bind fun t164 => (if t164 = 0 then (code_Cells.l0 k ([] : List Int) l0 (l0.length : Int) 0) else (some ([] : List Int)))
theorem code_Cells.mono_l : ∀ k, (∀ y0 y1 y2 y3, LeO (code_Cells.l0 k y0 y1 y2 y3) (code_Cells.l0 (k + 1) y0 y1 y2 y3))
 | 0 => fun _ _ _ _ r h => by simp [code_Cells.l0] at h
 | k + 1 => by
  have ih0 := code_Cells.mono_l k
  · intro y0 y1 y2 y3
    unfold code_Cells.l0
    repeat' first
    | (with_reducible exact ih0 _ _ _ _)
    | (with_reducible exact code_Check.mono _ _)
    | (with_reducible exact LeO.refl _)
    | (with_reducible exact LeO.none _)
    | (with_reducible refine LeO.ite ?_ ?_)
    | (with_reducible refine LeO.bind ?_ (fun _ => ?_))
    | exact ih0 _ _ _ _
    | exact code_Check.mono _ _
    | exact LeO.none _
    | refine LeO.ite ?_ ?_
    | refine LeO.bind ?_ (fun _ => ?_)
theorem code_Cells.mono : ∀ a0 k, LeO (code_Cells.f k a0) (code_Cells.f (k + 1) a0) := by
 intro a0 k
 have ih0 := code_Cells.mono_l k
 unfold code_Cells.f
 repeat' first
  | (with_reducible exact ih0 _ _ _ _)
  | (with_reducible exact code_Check.mono _ _)
  | (with_reducible exact LeO.refl _)
  | (with_reducible exact LeO.none _)
  | (with_reducible refine LeO.ite ?_ ?_)
  | (with_reducible refine LeO.bind ?_ (fun _ => ?_))
  | exact ih0 _ _ _ _
  | exact code_Check.mono _ _
  | exact LeO.none _
  | refine LeO.ite ?_ ?_
  | refine LeO.bind ?_ (fun _ => ?_)
set_option maxHeartbeats 8000000 in
set_option maxRecDepth 100000 in
theorem code_Cells.calls (k : Nat) (A0 : Option Addr) (c0 : Nat) (l0 : List (S37)) (r : List Int) (w : World) (hr0 : Kd.C k37 w A0 l0.length l0) (hc0 : l0.length ≤ c0) (h : code_Cells.f k l0 = some r) :
 Calls Try.prog 23 #[.slice A0 l0.length c0] w fun e w' => ∃ v0_ : Value, e = .returned (v0_) ∧ Kd.R (Kd.int .i64) 3 w' w.heap.size (fun _ => True) v0_ r ∧ Below w.heap.size w w' := by
 have hu37 := Try.underlying37
 have HR0 := Aside0.mk hr0
 have HC0 := Aside0.mk hc0
 clear hr0 hc0
 have HB := Aside0.mk (Below.refl w.heap.size w)
 have H : ((code_Check.f k l0).bind fun t164 => (if t164 = 0 then (code_Cells.l0 k ([] : List Int) l0 (l0.length : Int) 0) else (some ([] : List Int)))) = some r := h
 clear h
 replace H := Option.bind_eq_some_iff.mp H
 obtain ⟨t164, A20, H⟩ := H
 replace H : (if t164 = 0 then (code_Cells.l0 k ([] : List Int) l0 (l0.length : Int) 0) else (some ([] : List Int))) = some r := H
 have A2 := Aside0.mk A20
 clear A20
 by_cases c3 : t164 = 0
 · rw [if_pos c3] at H
   have c3b0 : (t164 == 0) = true := beq_iff_eq.mpr c3
   have c3b1 : (t164 != 0) = false := bne_eq_false_iff_eq.mpr c3
   clear c3
   have H' := Aside0.mk H
   clear H
   go_enter Try.func23, Try.ntmps23
   go_wp2_with (first | ((with_reducible refine gate_callee (f := 18) rfl ?_); refine goesL_ (some 7) rfl rfl Try.func18 (by kernel_rfl) rfl #[.slice A0 l0.length c0] rfl (by (try simp only [List.map_toArray, List.map_cons, List.map_nil]); first | done | rfl) ?_; (with_reducible refine (code_Check.calls k _ _ l0 t164 _ ?side1 ?side2 A2.out).mono ?_); (case side1 => repeat (first | exact HR0.out | with_reducible first | refine Kd.C_alloc ?_ _ | refine Kd.C_drewN ?_ _ | refine Kd.C_drew ?_)); (case side2 => exact HC0.out); rintro e w4 ⟨rfl, hb⟩; refine ⟨_, rfl, ?_⟩; have n0_ := Aside0.mk (bst_ hb); clear HB; have HB := n0_; clear n0_; (try clear hb); (try clear hb2); (try clear hk); (try clear hi)))
   go_loopg [3, 11] k (fun kq v3 v11 w' => ∃ (x3_1 : List Int) (x11_1 : Int), v11 = .int .i64 x11_1 ∧ Aside0 (code_Cells.l0 kq x3_1 l0 (l0.length : Int) x11_1 = some r) ∧ Aside0 (kq ≤ k) ∧ Aside0 (Kd.R (Kd.int .i64) 3 w' w.heap.size (fun _ => True) v3 x3_1) ∧ Aside0 (Below w.heap.size w w'))
   case atStart => exact ⟨(([] : List Int)), (0), (by first | rfl | (simp; done) | (simp [*]; done)), H', ⟨Nat.le_refl _⟩, ⟨by first | exact Kd.R_nil _ _ _ _ _ | exact Kd.N_nil _ _ _ _ _ | exact Kd.V_nil _ _ _ _ _ | exact Kd.Q_nil _ _ _ _ _ | exact Kd.S_nil _ _ _ _ _⟩, ⟨by repeat (with_reducible first | exact HB.out | apply below_alloc | apply pw_below_drewN | apply below_drew1)⟩⟩
   case round =>
    clear H'
    try clear c1
    try clear c2
    try clear p2
    try clear c3
    try clear c3b0
    try clear c3b1
    obtain ⟨x3_1, x11_1, rfl, HA, HK1, HO_3, HB⟩ := hrel
    cases gk with
    | zero => exact absurd HA.out (by simp [code_Cells.l0])
    | succ k1 =>
     have H := HA.out
     clear HA
     simp only [code_Cells.l0] at H
     by_cases c5 : x11_1 < (l0.length : Int)
     · rw [if_pos c5] at H
       have c5b0 : decide (x11_1 < (l0.length : Int)) = true := decide_eq_true c5
       clear c5
       by_cases c6 : 0 ≤ x11_1
       · rw [if_pos c6] at H
         have c6b0 : decide (0 ≤ x11_1) = true := decide_eq_true c6
         clear c6
         by_cases c7 : x11_1 < (l0.length : Int)
         · rw [if_pos c7] at H
           have c7b0 : decide (x11_1 < (l0.length : Int)) = true := decide_eq_true c7
           clear c7
           by_cases c8 : ((rd_T37 l0 x11_1).f0) = 1
           · rw [if_pos c8] at H
             have c8b0 : (((rd_T37 l0 x11_1).f0) == 1) = true := beq_iff_eq.mpr c8
             have c8b1 : (((rd_T37 l0 x11_1).f0) != 1) = false := bne_eq_false_iff_eq.mpr c8
             clear c8
             by_cases c9 : x3_1.length < 17592186044416
             · rw [if_pos c9] at H
               have LMc9 := Aside0.mk c9
               clear c9
               obtain ⟨y171, hy171⟩ : ∃ y_ : List Int, y_ = (x3_1 ++ [(rd_T37 l0 x11_1).f2]) := ⟨_, rfl⟩
               replace H : (code_Cells.l0 k1 y171 l0 (l0.length : Int) (wrap64 (x11_1 + 1))) = some r := by first | (rw [hy171]; with_reducible exact H) | (have H2_ := (Option.bind_some _ _).symm.trans H; rw [hy171]; with_reducible exact H2_) | (have H2_ := (Option.bind_some _ _).symm.trans H; with_reducible exact H2_) | with_reducible exact H | (rw [hy171]; exact H) | exact H
               have Ny171 := Aside0.mk hy171
               clear hy171
               have H' := Aside0.mk H
               clear H
               have p169 : 0 ≤ (x11_1 : Int) := of_decide_eq_true (by first | (with_reducible assumption) | assumption)
               have q169 : x11_1 < (l0.length : Int) := of_decide_eq_true (by first | (with_reducible assumption) | assumption)
               obtain ⟨ad169, A169_3, c169_3, e169, hx169_0, hx169_1, hx169_2, hx169_3, hl169_3, hi169_3⟩ := at_T37 HR0.out x11_1 p169 q169
               cases e169
               replace hx169_0 := (HB.out.cell (World.block_lt_of_cell? w _ hx169_0)).trans hx169_0
               replace hx169_1 := (HB.out.cell (World.block_lt_of_cell? w _ hx169_1)).trans hx169_1
               replace hx169_2 := (HB.out.cell (World.block_lt_of_cell? w _ hx169_2)).trans hx169_2
               replace hx169_3 := (HB.out.cell (World.block_lt_of_cell? w _ hx169_3)).trans hx169_3
               have HR169_3 := Aside0.mk hi169_3
               have HC169_3 := Aside0.mk hl169_3
               clear hi169_3 hl169_3
               replace p169 := eq_true p169
               replace q169 := eq_true q169
               go_wp2_with (first | ((with_reducible refine gate_dst (N := 5) rfl ?_); refine box_event ?hg (N := 5) ?hd (cs := #[.int .i64 0, .int .i64 0, .int .i64 0, .slice none 0 0]) (t := 37) ?hr ?_; (case hd => rfl); (case hg => rfl); (case hr => first | (go_simp; done) | (go_simp; rfl)); intro gb170 hg w10 hbox hb; have n0_ := Aside0.mk (Kd.R_below (by (with_reducible repeat (first | apply Kd.R_alloc | apply Kd.R_drewN | apply Kd.R_drew)); exact HO_3.out) hb); have n1_ := Aside0.mk (bst_ hb); have n2_ := Aside0.mk (hbox); have n3_ := Aside0.mk ((by rw [hg]; exact bsz_ : w.heap.size ≤ gb170)); have n4_ := n3_; clear HO_3; clear HB; have HO_3 := n0_; have HB := n1_; have BK170 := n2_; have GW170 := n3_; have GE170 := n4_; clear n0_ n1_ n2_ n3_ n4_; clear hb hbox hg; have hcz11_0 : w10.cell? ⟨gb170, 0, none⟩ = some (.int .i64 0) := (blk_cell BK170.out 0).trans rfl; have hcz11_1 : w10.cell? ⟨gb170, 1, none⟩ = some (.int .i64 0) := (blk_cell BK170.out 1).trans rfl; have hcz11_2 : w10.cell? ⟨gb170, 2, none⟩ = some (.int .i64 0) := (blk_cell BK170.out 2).trans rfl; have hcz11_3 : w10.cell? ⟨gb170, 3, none⟩ = some (.slice none 0 0) := (blk_cell BK170.out 3).trans rfl; have hfz11_0 := blk_frozen BK170.out 0; have hfz11_1 := blk_frozen BK170.out 1; have hfz11_2 := blk_frozen BK170.out 2; have hfz11_3 := blk_frozen BK170.out 3) | ((with_reducible refine gate_builtin (b := .append) (xs := #[.tmp 19, .tmp 22]) rfl ?_); at_builtin; refine Kd.R_append (Kd.int .i64) (w0 := w) w.heap.size rfl (.tmp 19) (.tmp 22) 31 3 (.int .i64 0) 8 rfl Try.underlying31 info3 rfl (by decide) (by omega) u3 x3_1 ((rd_T37 l0 x11_1).f2) [.int .i64 ((rd_T37 l0 x11_1).f2)] (fun _ => True) (fun _ => False) rfl (by first | (go_simp; done) | (go_simp; rfl)) ?aP (fun _ hk => hk.elim) ?aF ?aO ?aB ?aS ?aL ?_; (case aP => exact rfl); (case aB => exact (by repeat (with_reducible first | exact HB.out | apply below_alloc | apply pw_below_drewN | apply below_drew1 | refine below_set ?_ GE170.out))); (case aF => exact (fun _ _ => trivial)); (case aO => exact (by (with_reducible repeat (first | apply Kd.R_alloc | apply Kd.R_drewN | apply Kd.R_drew)); exact Kd.R_mono (Kd.R_far (p := ⟨gb170, 3, none⟩) (Kd.R_far (p := ⟨gb170, 2, none⟩) (Kd.R_far (p := ⟨gb170, 1, none⟩) (Kd.R_far (p := ⟨gb170, 0, none⟩) (Kd.R_types HO_3.out BK170.out (by decide)) (fun _ hk => hk.2) (.int .i64 ((rd_T37 l0 x11_1).f0))) (fun _ hk => hk.2) (.int .i64 ((rd_T37 l0 x11_1).f1))) (fun _ hk => hk.2) (.int .i64 ((rd_T37 l0 x11_1).f2))) (fun _ hk => hk.2) (.slice A169_3 ((rd_T37 l0 x11_1).f3).length c169_3)) (fun _ hk => trivial))); (case aS => exact (below_size (by repeat (with_reducible first | exact HB.out | apply below_alloc | apply pw_below_drewN | apply below_drew1 | refine below_set ?_ GE170.out)))); (case aL => have := LMc9.out; omega); intro v172 w12 ho hb hg hat; rw [← Ny171.out] at ho; have n0_ := Aside0.mk (blk_grown (g := gb170) (o := .cells #[.int .i64 ((rd_T37 l0 x11_1).f0), .int .i64 ((rd_T37 l0 x11_1).f1), .int .i64 ((rd_T37 l0 x11_1).f2), .slice A169_3 ((rd_T37 l0 x11_1).f3).length c169_3] 37 (0, 0)) (by (with_reducible repeat (first | refine blk_drewN ?_ _ | refine blk_drew ?_ | refine blk_alloc ?_ _)); refine blk_put (cs := #[.int .i64 ((rd_T37 l0 x11_1).f0), .int .i64 ((rd_T37 l0 x11_1).f1), .int .i64 ((rd_T37 l0 x11_1).f2), .slice none 0 0]) ?_ 3 _ rfl; (with_reducible repeat (first | refine blk_drewN ?_ _ | refine blk_drew ?_ | refine blk_alloc ?_ _)); refine blk_put (cs := #[.int .i64 ((rd_T37 l0 x11_1).f0), .int .i64 ((rd_T37 l0 x11_1).f1), .int .i64 0, .slice none 0 0]) ?_ 2 _ rfl; (with_reducible repeat (first | refine blk_drewN ?_ _ | refine blk_drew ?_ | refine blk_alloc ?_ _)); refine blk_put (cs := #[.int .i64 ((rd_T37 l0 x11_1).f0), .int .i64 0, .int .i64 0, .slice none 0 0]) ?_ 1 _ rfl; (with_reducible repeat (first | refine blk_drewN ?_ _ | refine blk_drew ?_ | refine blk_alloc ?_ _)); refine blk_put (cs := #[.int .i64 0, .int .i64 0, .int .i64 0, .slice none 0 0]) ?_ 0 _ rfl; (with_reducible repeat (first | refine blk_drewN ?_ _ | refine blk_drew ?_ | refine blk_alloc ?_ _)); exact BK170.out) hg (Kd.R_ne HO_3.out BK170.out (by decide))); have n1_ := Aside0.mk (hb); have n2_ := Aside0.mk (ho); clear BK170; clear HB; clear HO_3; have BK170 := n0_; have HB := n1_; have HO173 := n2_; clear n0_ n1_ n2_; clear ho hb hg hat))
               go_roundg k1
               case measure => have := HK1.out; omega
               case rel => exact ⟨(y171), (wrap64 (x11_1 + 1)), (by first | rfl | (simp; done) | (simp [*]; done)), H', ⟨by have := HK1.out; omega⟩, ⟨by (with_reducible repeat (first | apply Kd.R_alloc | apply Kd.R_drewN | apply Kd.R_drew)); exact HO173.out⟩, ⟨by repeat (with_reducible first | exact HB.out | apply below_alloc | apply pw_below_drewN | apply below_drew1 | refine below_set ?_ GE170.out)⟩⟩
             · rw [if_neg c9] at H
               exact absurd H (by simp)
           · rw [if_neg c8] at H
             have c8b0 : (((rd_T37 l0 x11_1).f0) == 1) = false := beq_eq_false_iff_ne.mpr c8
             have c8b1 : (((rd_T37 l0 x11_1).f0) != 1) = true := bne_iff_ne.mpr c8
             by_cases c13 : ((rd_T37 l0 x11_1).f0) = 3
             · rw [if_pos c13] at H
               have c13b0 : (((rd_T37 l0 x11_1).f0) == 3) = true := beq_iff_eq.mpr c13
               have c13b1 : (((rd_T37 l0 x11_1).f0) != 3) = false := bne_eq_false_iff_eq.mpr c13
               clear c13
               by_cases c14 : x3_1.length < 17592186044416
               · rw [if_pos c14] at H
                 have LMc14 := Aside0.mk c14
                 clear c14
                 obtain ⟨y174, hy174⟩ : ∃ y_ : List Int, y_ = (x3_1 ++ [(rd_T37 l0 x11_1).f1]) := ⟨_, rfl⟩
                 replace H : (code_Cells.l0 k1 y174 l0 (l0.length : Int) (wrap64 (x11_1 + 1))) = some r := by first | (rw [hy174]; with_reducible exact H) | (have H2_ := (Option.bind_some _ _).symm.trans H; rw [hy174]; with_reducible exact H2_) | (have H2_ := (Option.bind_some _ _).symm.trans H; with_reducible exact H2_) | with_reducible exact H | (rw [hy174]; exact H) | exact H
                 have Ny174 := Aside0.mk hy174
                 clear hy174
                 have H' := Aside0.mk H
                 clear H
                 have p169 : 0 ≤ (x11_1 : Int) := of_decide_eq_true (by first | (with_reducible assumption) | assumption)
                 have q169 : x11_1 < (l0.length : Int) := of_decide_eq_true (by first | (with_reducible assumption) | assumption)
                 obtain ⟨ad169, A169_3, c169_3, e169, hx169_0, hx169_1, hx169_2, hx169_3, hl169_3, hi169_3⟩ := at_T37 HR0.out x11_1 p169 q169
                 cases e169
                 replace hx169_0 := (HB.out.cell (World.block_lt_of_cell? w _ hx169_0)).trans hx169_0
                 replace hx169_1 := (HB.out.cell (World.block_lt_of_cell? w _ hx169_1)).trans hx169_1
                 replace hx169_2 := (HB.out.cell (World.block_lt_of_cell? w _ hx169_2)).trans hx169_2
                 replace hx169_3 := (HB.out.cell (World.block_lt_of_cell? w _ hx169_3)).trans hx169_3
                 have HR169_3 := Aside0.mk hi169_3
                 have HC169_3 := Aside0.mk hl169_3
                 clear hi169_3 hl169_3
                 replace p169 := eq_true p169
                 replace q169 := eq_true q169
                 go_wp2_with (first | ((with_reducible refine gate_dst (N := 5) rfl ?_); refine box_event ?hg (N := 5) ?hd (cs := #[.int .i64 0, .int .i64 0, .int .i64 0, .slice none 0 0]) (t := 37) ?hr ?_; (case hd => rfl); (case hg => rfl); (case hr => first | (go_simp; done) | (go_simp; rfl)); intro gb170 hg w15 hbox hb; have n0_ := Aside0.mk (Kd.R_below (by (with_reducible repeat (first | apply Kd.R_alloc | apply Kd.R_drewN | apply Kd.R_drew)); exact HO_3.out) hb); have n1_ := Aside0.mk (bst_ hb); have n2_ := Aside0.mk (hbox); have n3_ := Aside0.mk ((by rw [hg]; exact bsz_ : w.heap.size ≤ gb170)); have n4_ := n3_; clear HO_3; clear HB; have HO_3 := n0_; have HB := n1_; have BK170 := n2_; have GW170 := n3_; have GE170 := n4_; clear n0_ n1_ n2_ n3_ n4_; clear hb hbox hg; have hcz16_0 : w15.cell? ⟨gb170, 0, none⟩ = some (.int .i64 0) := (blk_cell BK170.out 0).trans rfl; have hcz16_1 : w15.cell? ⟨gb170, 1, none⟩ = some (.int .i64 0) := (blk_cell BK170.out 1).trans rfl; have hcz16_2 : w15.cell? ⟨gb170, 2, none⟩ = some (.int .i64 0) := (blk_cell BK170.out 2).trans rfl; have hcz16_3 : w15.cell? ⟨gb170, 3, none⟩ = some (.slice none 0 0) := (blk_cell BK170.out 3).trans rfl; have hfz16_0 := blk_frozen BK170.out 0; have hfz16_1 := blk_frozen BK170.out 1; have hfz16_2 := blk_frozen BK170.out 2; have hfz16_3 := blk_frozen BK170.out 3) | ((with_reducible refine gate_builtin (b := .append) (xs := #[.tmp 26, .tmp 29]) rfl ?_); at_builtin; refine Kd.R_append (Kd.int .i64) (w0 := w) w.heap.size rfl (.tmp 26) (.tmp 29) 31 3 (.int .i64 0) 8 rfl Try.underlying31 info3 rfl (by decide) (by omega) u3 x3_1 ((rd_T37 l0 x11_1).f1) [.int .i64 ((rd_T37 l0 x11_1).f1)] (fun _ => True) (fun _ => False) rfl (by first | (go_simp; done) | (go_simp; rfl)) ?aP (fun _ hk => hk.elim) ?aF ?aO ?aB ?aS ?aL ?_; (case aP => exact rfl); (case aB => exact (by repeat (with_reducible first | exact HB.out | apply below_alloc | apply pw_below_drewN | apply below_drew1 | refine below_set ?_ GE170.out))); (case aF => exact (fun _ _ => trivial)); (case aO => exact (by (with_reducible repeat (first | apply Kd.R_alloc | apply Kd.R_drewN | apply Kd.R_drew)); exact Kd.R_mono (Kd.R_far (p := ⟨gb170, 3, none⟩) (Kd.R_far (p := ⟨gb170, 2, none⟩) (Kd.R_far (p := ⟨gb170, 1, none⟩) (Kd.R_far (p := ⟨gb170, 0, none⟩) (Kd.R_types HO_3.out BK170.out (by decide)) (fun _ hk => hk.2) (.int .i64 ((rd_T37 l0 x11_1).f0))) (fun _ hk => hk.2) (.int .i64 ((rd_T37 l0 x11_1).f1))) (fun _ hk => hk.2) (.int .i64 ((rd_T37 l0 x11_1).f2))) (fun _ hk => hk.2) (.slice A169_3 ((rd_T37 l0 x11_1).f3).length c169_3)) (fun _ hk => trivial))); (case aS => exact (below_size (by repeat (with_reducible first | exact HB.out | apply below_alloc | apply pw_below_drewN | apply below_drew1 | refine below_set ?_ GE170.out)))); (case aL => have := LMc14.out; omega); intro v175 w17 ho hb hg hat; rw [← Ny174.out] at ho; have n0_ := Aside0.mk (blk_grown (g := gb170) (o := .cells #[.int .i64 ((rd_T37 l0 x11_1).f0), .int .i64 ((rd_T37 l0 x11_1).f1), .int .i64 ((rd_T37 l0 x11_1).f2), .slice A169_3 ((rd_T37 l0 x11_1).f3).length c169_3] 37 (0, 0)) (by (with_reducible repeat (first | refine blk_drewN ?_ _ | refine blk_drew ?_ | refine blk_alloc ?_ _)); refine blk_put (cs := #[.int .i64 ((rd_T37 l0 x11_1).f0), .int .i64 ((rd_T37 l0 x11_1).f1), .int .i64 ((rd_T37 l0 x11_1).f2), .slice none 0 0]) ?_ 3 _ rfl; (with_reducible repeat (first | refine blk_drewN ?_ _ | refine blk_drew ?_ | refine blk_alloc ?_ _)); refine blk_put (cs := #[.int .i64 ((rd_T37 l0 x11_1).f0), .int .i64 ((rd_T37 l0 x11_1).f1), .int .i64 0, .slice none 0 0]) ?_ 2 _ rfl; (with_reducible repeat (first | refine blk_drewN ?_ _ | refine blk_drew ?_ | refine blk_alloc ?_ _)); refine blk_put (cs := #[.int .i64 ((rd_T37 l0 x11_1).f0), .int .i64 0, .int .i64 0, .slice none 0 0]) ?_ 1 _ rfl; (with_reducible repeat (first | refine blk_drewN ?_ _ | refine blk_drew ?_ | refine blk_alloc ?_ _)); refine blk_put (cs := #[.int .i64 0, .int .i64 0, .int .i64 0, .slice none 0 0]) ?_ 0 _ rfl; (with_reducible repeat (first | refine blk_drewN ?_ _ | refine blk_drew ?_ | refine blk_alloc ?_ _)); exact BK170.out) hg (Kd.R_ne HO_3.out BK170.out (by decide))); have n1_ := Aside0.mk (hb); have n2_ := Aside0.mk (ho); clear BK170; clear HB; clear HO_3; have BK170 := n0_; have HB := n1_; have HO176 := n2_; clear n0_ n1_ n2_; clear ho hb hg hat))
                 go_roundg k1
                 case measure => have := HK1.out; omega
                 case rel => exact ⟨(y174), (wrap64 (x11_1 + 1)), (by first | rfl | (simp; done) | (simp [*]; done)), H', ⟨by have := HK1.out; omega⟩, ⟨by (with_reducible repeat (first | apply Kd.R_alloc | apply Kd.R_drewN | apply Kd.R_drew)); exact HO176.out⟩, ⟨by repeat (with_reducible first | exact HB.out | apply below_alloc | apply pw_below_drewN | apply below_drew1 | refine below_set ?_ GE170.out)⟩⟩
               · rw [if_neg c14] at H
                 exact absurd H (by simp)
             · rw [if_neg c13] at H
               have c13b0 : (((rd_T37 l0 x11_1).f0) == 3) = false := beq_eq_false_iff_ne.mpr c13
               have c13b1 : (((rd_T37 l0 x11_1).f0) != 3) = true := bne_iff_ne.mpr c13
               have H' := Aside0.mk H
               clear H
               have p169 : 0 ≤ (x11_1 : Int) := of_decide_eq_true (by first | (with_reducible assumption) | assumption)
               have q169 : x11_1 < (l0.length : Int) := of_decide_eq_true (by first | (with_reducible assumption) | assumption)
               obtain ⟨ad169, A169_3, c169_3, e169, hx169_0, hx169_1, hx169_2, hx169_3, hl169_3, hi169_3⟩ := at_T37 HR0.out x11_1 p169 q169
               cases e169
               replace hx169_0 := (HB.out.cell (World.block_lt_of_cell? w _ hx169_0)).trans hx169_0
               replace hx169_1 := (HB.out.cell (World.block_lt_of_cell? w _ hx169_1)).trans hx169_1
               replace hx169_2 := (HB.out.cell (World.block_lt_of_cell? w _ hx169_2)).trans hx169_2
               replace hx169_3 := (HB.out.cell (World.block_lt_of_cell? w _ hx169_3)).trans hx169_3
               have HR169_3 := Aside0.mk hi169_3
               have HC169_3 := Aside0.mk hl169_3
               clear hi169_3 hl169_3
               replace p169 := eq_true p169
               replace q169 := eq_true q169
               go_wp2_with (first | ((with_reducible refine gate_dst (N := 5) rfl ?_); refine box_event ?hg (N := 5) ?hd (cs := #[.int .i64 0, .int .i64 0, .int .i64 0, .slice none 0 0]) (t := 37) ?hr ?_; (case hd => rfl); (case hg => rfl); (case hr => first | (go_simp; done) | (go_simp; rfl)); intro gb170 hg w18 hbox hb; have n0_ := Aside0.mk (Kd.R_below (by (with_reducible repeat (first | apply Kd.R_alloc | apply Kd.R_drewN | apply Kd.R_drew)); exact HO_3.out) hb); have n1_ := Aside0.mk (bst_ hb); have n2_ := Aside0.mk (hbox); have n3_ := Aside0.mk ((by rw [hg]; exact bsz_ : w.heap.size ≤ gb170)); have n4_ := n3_; clear HO_3; clear HB; have HO_3 := n0_; have HB := n1_; have BK170 := n2_; have GW170 := n3_; have GE170 := n4_; clear n0_ n1_ n2_ n3_ n4_; clear hb hbox hg; have hcz19_0 : w18.cell? ⟨gb170, 0, none⟩ = some (.int .i64 0) := (blk_cell BK170.out 0).trans rfl; have hcz19_1 : w18.cell? ⟨gb170, 1, none⟩ = some (.int .i64 0) := (blk_cell BK170.out 1).trans rfl; have hcz19_2 : w18.cell? ⟨gb170, 2, none⟩ = some (.int .i64 0) := (blk_cell BK170.out 2).trans rfl; have hcz19_3 : w18.cell? ⟨gb170, 3, none⟩ = some (.slice none 0 0) := (blk_cell BK170.out 3).trans rfl; have hfz19_0 := blk_frozen BK170.out 0; have hfz19_1 := blk_frozen BK170.out 1; have hfz19_2 := blk_frozen BK170.out 2; have hfz19_3 := blk_frozen BK170.out 3))
               go_roundg k1
               case measure => have := HK1.out; omega
               case rel => exact ⟨(x3_1), (wrap64 (x11_1 + 1)), (by first | rfl | (simp; done) | (simp [*]; done)), H', ⟨by have := HK1.out; omega⟩, ⟨by (with_reducible repeat (first | apply Kd.R_alloc | apply Kd.R_drewN | apply Kd.R_drew)); exact Kd.R_mono (Kd.R_far (p := ⟨gb170, 3, none⟩) (Kd.R_far (p := ⟨gb170, 2, none⟩) (Kd.R_far (p := ⟨gb170, 1, none⟩) (Kd.R_far (p := ⟨gb170, 0, none⟩) (Kd.R_types HO_3.out BK170.out (by decide)) (fun _ hk => hk.2) (.int .i64 ((rd_T37 l0 x11_1).f0))) (fun _ hk => hk.2) (.int .i64 ((rd_T37 l0 x11_1).f1))) (fun _ hk => hk.2) (.int .i64 ((rd_T37 l0 x11_1).f2))) (fun _ hk => hk.2) (.slice A169_3 ((rd_T37 l0 x11_1).f3).length c169_3)) (fun _ hk => trivial)⟩, ⟨by repeat (with_reducible first | exact HB.out | apply below_alloc | apply pw_below_drewN | apply below_drew1 | refine below_set ?_ GE170.out)⟩⟩
         · rw [if_neg c7] at H
           exact absurd H (by simp)
       · rw [if_neg c6] at H
         exact absurd H (by simp)
     · rw [if_neg c5] at H
       have c5b0 : decide (x11_1 < (l0.length : Int)) = false := decide_eq_false c5
       clear c5
       replace H := Option.bind_eq_some_iff.mp H
       obtain ⟨t165, A200, H⟩ := H
       replace H : ((slices_Compact.f t165).bind fun t166 => (some t166)) = some r := H
       have A20 := Aside0.mk A200
       clear A200
       replace H := Option.bind_eq_some_iff.mp H
       obtain ⟨t166, A210, H⟩ := H
       replace H : (some t166) = some r := H
       have A21 := Aside0.mk A210
       clear A210
       obtain rfl := Option.some.inj H
       obtain ⟨Ao22, co22, eo22⟩ := Kd.R_slice HO_3.out
       subst eo22
       go_wp2_with (first | ((with_reducible refine gate_callee (f := 42) rfl ?_); refine goesL_ (some 33) rfl rfl Try.func42 (by kernel_rfl) rfl #[.slice Ao22 x3_1.length co22] rfl (by (try simp only [List.map_toArray, List.map_cons, List.map_nil]); first | done | rfl) ?_; (with_reducible refine (slices_Sort.calls (fun k_ => some k_ = (.slice Ao22 x3_1.length co22 : Value).ownBlock) (.slice Ao22 x3_1.length co22) x3_1 t165 w _ ?side1 ?side2 A20.out).mono ?_); (case side1 => repeat (with_reducible first | exact HB.out | apply below_alloc | apply pw_below_drewN | apply below_drew1)); (case side2 => exact Kd.R_tight rfl HO_3.out); rintro e w23 ⟨rfl, hy0, hb, hkp⟩; refine ⟨_, rfl, ?_⟩; have n0_ := Aside0.mk (Kd.R_reok rfl hy0 (fun k_ e_ => HO_3.out.1 k_ e_)); have n1_ := Aside0.mk (hb); clear HO_3; clear HB; have HO_3 := n0_; have HB := n1_; clear n0_ n1_; (try clear hb); (try clear hkp); (try clear hy0)) | ((with_reducible refine gate_callee (f := 43) rfl ?_); refine goesL_ (some 35) rfl rfl Try.func43 (by kernel_rfl) rfl #[.slice Ao22 x3_1.length co22] rfl (by (try simp only [List.map_toArray, List.map_cons, List.map_nil]); first | done | rfl) ?_; (with_reducible refine (slices_Compact.calls (fun k_ => some k_ = (.slice Ao22 x3_1.length co22 : Value).ownBlock) (.slice Ao22 x3_1.length co22) t165 t166 w _ ?side1 ?side2 A21.out).mono ?_); (case side1 => repeat (with_reducible first | exact HB.out | apply below_alloc | apply pw_below_drewN | apply below_drew1)); (case side2 => exact Kd.R_tight rfl HO_3.out); rintro e w24 ⟨v167, rfl, ho0, hb, hkp⟩; refine ⟨_, rfl, ?_⟩; have n0_ := Aside0.mk (Kd.R_mono (ok' := fun k_ => True) ho0 (fun k_ hk_ => trivial)); have n1_ := Aside0.mk (hb); clear HB; clear HO_3; have HO168 := n0_; have HB := n1_; clear n0_ n1_; (try clear hb); (try clear hkp); (try clear ho0)))
       go_ret
       exact ⟨_, by first | rfl | (simp [errW_none, errW_some] <;> rfl) | (simp [*, errW_none, errW_some] <;> rfl), by (with_reducible repeat (first | apply Kd.R_alloc | apply Kd.R_drewN | apply Kd.R_drew)); exact HO168.out, by repeat (with_reducible first | exact HB.out | apply below_alloc | apply pw_below_drewN | apply below_drew1)⟩
 · rw [if_neg c3] at H
   have c3b0 : (t164 == 0) = false := beq_eq_false_iff_ne.mpr c3
   have c3b1 : (t164 != 0) = true := bne_iff_ne.mpr c3
   obtain rfl := Option.some.inj H
   go_enter Try.func23, Try.ntmps23
   go_wp2_with (first | ((with_reducible refine gate_callee (f := 18) rfl ?_); refine goesL_ (some 7) rfl rfl Try.func18 (by kernel_rfl) rfl #[.slice A0 l0.length c0] rfl (by (try simp only [List.map_toArray, List.map_cons, List.map_nil]); first | done | rfl) ?_; (with_reducible refine (code_Check.calls k _ _ l0 t164 _ ?side1 ?side2 A2.out).mono ?_); (case side1 => repeat (first | exact HR0.out | with_reducible first | refine Kd.C_alloc ?_ _ | refine Kd.C_drewN ?_ _ | refine Kd.C_drew ?_)); (case side2 => exact HC0.out); rintro e w25 ⟨rfl, hb⟩; refine ⟨_, rfl, ?_⟩; have n0_ := Aside0.mk (bst_ hb); clear HB; have HB := n0_; clear n0_; (try clear hb); (try clear hb2); (try clear hk); (try clear hi)))
   go_ret
   exact ⟨_, by first | rfl | (simp [errW_none, errW_some] <;> rfl) | (simp [*, errW_none, errW_some] <;> rfl), by first | exact Kd.R_nil _ _ _ _ _ | exact Kd.N_nil _ _ _ _ _ | exact Kd.V_nil _ _ _ _ _ | exact Kd.Q_nil _ _ _ _ _ | exact Kd.S_nil _ _ _ _ _, by repeat (with_reducible first | exact HB.out | apply below_alloc | apply pw_below_drewN | apply below_drew1)⟩

/-! ### handshakerlaw08_awake: function 16 -/
def handshakerlaw08_awake.f (k : Nat)  : Option (Bool) := (some (([(⟨7, 2, 1, ([] : List (S41))⟩ : S37), (⟨1, 1, 9, ([] : List (S41))⟩ : S37), (⟨5, 0, 0, ([] : List (S41))⟩ : S37), (⟨6, 4, 0, ([] : List (S41))⟩ : S37)] : List (S37)) : List (S37))).bind fun y177 => ((code_Check.f k y177).bind fun t180 => (if t180 = 0 then ((code_Deep.f k y177).bind fun t181 => (if t181 = 1 then ((code_Cells.f k y177).bind fun t182 => ((handshakerref03_Numbers.f k t182 (([9] : List Int))).bind fun t188 => (if t188 = true then (if 3 ≤ (y177.length : Int) then ((code_Check.f k (y177.take 3)).bind fun t194 => (if t194 = 2 then ((code_Check.f k (([(⟨0, 0, 0, ([] : List (S41))⟩ : S37)] : List (S37)))).bind fun t198 => (if t198 = 1 then ((code_Check.f k ([] : List (S37))).bind fun t199 => (if t199 = 0 then ((code_Check.f k (([(⟨4, 1, 0, (([(⟨1, 0⟩ : S41)] : List (S41)))⟩ : S37)] : List (S37)))).bind fun t206 => (if t206 = 2 then (some true) else (some false))) else (some false))) else (some false))) else (some false))) else (none)) else (some false)))) else (some false))) else (some false)))
theorem handshakerlaw08_awake.mono : ∀ k, LeO (handshakerlaw08_awake.f k ) (handshakerlaw08_awake.f (k + 1) ) := by
 intro  k
 unfold handshakerlaw08_awake.f
 repeat' first
  | (with_reducible exact code_Cells.mono _ _)
  | (with_reducible exact code_Check.mono _ _)
  | (with_reducible exact code_Deep.mono _ _)
  | (with_reducible exact handshakerref03_Numbers.mono _ _ _)
  | (with_reducible exact LeO.refl _)
  | (with_reducible exact LeO.none _)
  | (with_reducible refine LeO.ite ?_ ?_)
  | (with_reducible refine LeO.bind ?_ (fun _ => ?_))
  | exact code_Cells.mono _ _
  | exact code_Check.mono _ _
  | exact code_Deep.mono _ _
  | exact handshakerref03_Numbers.mono _ _ _
  | exact LeO.none _
  | refine LeO.ite ?_ ?_
  | refine LeO.bind ?_ (fun _ => ?_)
set_option maxHeartbeats 8000000 in
set_option maxRecDepth 100000 in
theorem handshakerlaw08_awake.callsT (k : Nat)  (r : Bool) (w : World) (HT : Aside0 (r = true)) (h : handshakerlaw08_awake.f k  = some r) :
 Calls Try.prog 16 #[] w fun e w' => e = .returned (.bool r) ∧ Below w.heap.size w w' := by
 have hu37 := Try.underlying37
 have hu41 := Try.underlying41
 have HB := Aside0.mk (Below.refl w.heap.size w)
 have H : ((some (([(⟨7, 2, 1, ([] : List (S41))⟩ : S37), (⟨1, 1, 9, ([] : List (S41))⟩ : S37), (⟨5, 0, 0, ([] : List (S41))⟩ : S37), (⟨6, 4, 0, ([] : List (S41))⟩ : S37)] : List (S37)) : List (S37))).bind fun y177 => ((code_Check.f k y177).bind fun t180 => (if t180 = 0 then ((code_Deep.f k y177).bind fun t181 => (if t181 = 1 then ((code_Cells.f k y177).bind fun t182 => ((handshakerref03_Numbers.f k t182 (([9] : List Int))).bind fun t188 => (if t188 = true then (if 3 ≤ (y177.length : Int) then ((code_Check.f k (y177.take 3)).bind fun t194 => (if t194 = 2 then ((code_Check.f k (([(⟨0, 0, 0, ([] : List (S41))⟩ : S37)] : List (S37)))).bind fun t198 => (if t198 = 1 then ((code_Check.f k ([] : List (S37))).bind fun t199 => (if t199 = 0 then ((code_Check.f k (([(⟨4, 1, 0, (([(⟨1, 0⟩ : S41)] : List (S41)))⟩ : S37)] : List (S37)))).bind fun t206 => (if t206 = 2 then (some true) else (some false))) else (some false))) else (some false))) else (some false))) else (none)) else (some false)))) else (some false))) else (some false)))) = some r := h
 clear h
 obtain ⟨y177, hy177⟩ : ∃ y_ : List (S37), y_ = (([(⟨7, 2, 1, ([] : List (S41))⟩ : S37), (⟨1, 1, 9, ([] : List (S41))⟩ : S37), (⟨5, 0, 0, ([] : List (S41))⟩ : S37), (⟨6, 4, 0, ([] : List (S41))⟩ : S37)] : List (S37))) := ⟨_, rfl⟩
 replace H : ((code_Check.f k y177).bind fun t180 => (if t180 = 0 then ((code_Deep.f k y177).bind fun t181 => (if t181 = 1 then ((code_Cells.f k y177).bind fun t182 => ((handshakerref03_Numbers.f k t182 (([9] : List Int))).bind fun t188 => (if t188 = true then (if 3 ≤ (y177.length : Int) then ((code_Check.f k (y177.take 3)).bind fun t194 => (if t194 = 2 then ((code_Check.f k (([(⟨0, 0, 0, ([] : List (S41))⟩ : S37)] : List (S37)))).bind fun t198 => (if t198 = 1 then ((code_Check.f k ([] : List (S37))).bind fun t199 => (if t199 = 0 then ((code_Check.f k (([(⟨4, 1, 0, (([(⟨1, 0⟩ : S41)] : List (S41)))⟩ : S37)] : List (S37)))).bind fun t206 => (if t206 = 2 then (some true) else (some false))) else (some false))) else (some false))) else (some false))) else (none)) else (some false)))) else (some false))) else (some false))) = some r := by first | (rw [hy177]; with_reducible exact H) | (have H2_ := (Option.bind_some _ _).symm.trans H; rw [hy177]; with_reducible exact H2_) | (have H2_ := (Option.bind_some _ _).symm.trans H; with_reducible exact H2_) | with_reducible exact H | (rw [hy177]; exact H) | exact H
 have Ny177 := Aside0.mk hy177
 clear hy177
 replace H := Option.bind_eq_some_iff.mp H
 obtain ⟨t180, A10, H⟩ := H
 replace H : (if t180 = 0 then ((code_Deep.f k y177).bind fun t181 => (if t181 = 1 then ((code_Cells.f k y177).bind fun t182 => ((handshakerref03_Numbers.f k t182 (([9] : List Int))).bind fun t188 => (if t188 = true then (if 3 ≤ (y177.length : Int) then ((code_Check.f k (y177.take 3)).bind fun t194 => (if t194 = 2 then ((code_Check.f k (([(⟨0, 0, 0, ([] : List (S41))⟩ : S37)] : List (S37)))).bind fun t198 => (if t198 = 1 then ((code_Check.f k ([] : List (S37))).bind fun t199 => (if t199 = 0 then ((code_Check.f k (([(⟨4, 1, 0, (([(⟨1, 0⟩ : S41)] : List (S41)))⟩ : S37)] : List (S37)))).bind fun t206 => (if t206 = 2 then (some true) else (some false))) else (some false))) else (some false))) else (some false))) else (none)) else (some false)))) else (some false))) else (some false)) = some r := H
 have A1 := Aside0.mk A10
 clear A10
 by_cases c2 : t180 = 0
 · rw [if_pos c2] at H
   have c2b0 : (t180 == 0) = true := beq_iff_eq.mpr c2
   have c2b1 : (t180 != 0) = false := bne_eq_false_iff_eq.mpr c2
   clear c2
   replace H := Option.bind_eq_some_iff.mp H
   obtain ⟨t181, A30, H⟩ := H
   replace H : (if t181 = 1 then ((code_Cells.f k y177).bind fun t182 => ((handshakerref03_Numbers.f k t182 (([9] : List Int))).bind fun t188 => (if t188 = true then (if 3 ≤ (y177.length : Int) then ((code_Check.f k (y177.take 3)).bind fun t194 => (if t194 = 2 then ((code_Check.f k (([(⟨0, 0, 0, ([] : List (S41))⟩ : S37)] : List (S37)))).bind fun t198 => (if t198 = 1 then ((code_Check.f k ([] : List (S37))).bind fun t199 => (if t199 = 0 then ((code_Check.f k (([(⟨4, 1, 0, (([(⟨1, 0⟩ : S41)] : List (S41)))⟩ : S37)] : List (S37)))).bind fun t206 => (if t206 = 2 then (some true) else (some false))) else (some false))) else (some false))) else (some false))) else (none)) else (some false)))) else (some false)) = some r := H
   have A3 := Aside0.mk A30
   clear A30
   by_cases c4 : t181 = 1
   · rw [if_pos c4] at H
     have c4b0 : (t181 == 1) = true := beq_iff_eq.mpr c4
     have c4b1 : (t181 != 1) = false := bne_eq_false_iff_eq.mpr c4
     clear c4
     replace H := Option.bind_eq_some_iff.mp H
     obtain ⟨t182, A50, H⟩ := H
     replace H : ((handshakerref03_Numbers.f k t182 (([9] : List Int))).bind fun t188 => (if t188 = true then (if 3 ≤ (y177.length : Int) then ((code_Check.f k (y177.take 3)).bind fun t194 => (if t194 = 2 then ((code_Check.f k (([(⟨0, 0, 0, ([] : List (S41))⟩ : S37)] : List (S37)))).bind fun t198 => (if t198 = 1 then ((code_Check.f k ([] : List (S37))).bind fun t199 => (if t199 = 0 then ((code_Check.f k (([(⟨4, 1, 0, (([(⟨1, 0⟩ : S41)] : List (S41)))⟩ : S37)] : List (S37)))).bind fun t206 => (if t206 = 2 then (some true) else (some false))) else (some false))) else (some false))) else (some false))) else (none)) else (some false))) = some r := H
     have A5 := Aside0.mk A50
     clear A50
     obtain ⟨y185, hy185⟩ : ∃ y_ : List Int, y_ = (([9] : List Int)) := ⟨_, rfl⟩
     replace H : ((handshakerref03_Numbers.f k t182 y185).bind fun t188 => (if t188 = true then (if 3 ≤ (y177.length : Int) then ((code_Check.f k (y177.take 3)).bind fun t194 => (if t194 = 2 then ((code_Check.f k (([(⟨0, 0, 0, ([] : List (S41))⟩ : S37)] : List (S37)))).bind fun t198 => (if t198 = 1 then ((code_Check.f k ([] : List (S37))).bind fun t199 => (if t199 = 0 then ((code_Check.f k (([(⟨4, 1, 0, (([(⟨1, 0⟩ : S41)] : List (S41)))⟩ : S37)] : List (S37)))).bind fun t206 => (if t206 = 2 then (some true) else (some false))) else (some false))) else (some false))) else (some false))) else (none)) else (some false))) = some r := by first | (rw [hy185]; with_reducible exact H) | (have H2_ := (Option.bind_some _ _).symm.trans H; rw [hy185]; with_reducible exact H2_) | (have H2_ := (Option.bind_some _ _).symm.trans H; with_reducible exact H2_) | with_reducible exact H | (rw [hy185]; exact H) | exact H
     have Ny185 := Aside0.mk hy185
     clear hy185
     replace H := Option.bind_eq_some_iff.mp H
     obtain ⟨t188, A60, H⟩ := H
     replace H : (if t188 = true then (if 3 ≤ (y177.length : Int) then ((code_Check.f k (y177.take 3)).bind fun t194 => (if t194 = 2 then ((code_Check.f k (([(⟨0, 0, 0, ([] : List (S41))⟩ : S37)] : List (S37)))).bind fun t198 => (if t198 = 1 then ((code_Check.f k ([] : List (S37))).bind fun t199 => (if t199 = 0 then ((code_Check.f k (([(⟨4, 1, 0, (([(⟨1, 0⟩ : S41)] : List (S41)))⟩ : S37)] : List (S37)))).bind fun t206 => (if t206 = 2 then (some true) else (some false))) else (some false))) else (some false))) else (some false))) else (none)) else (some false)) = some r := H
     have A6 := Aside0.mk A60
     clear A60
     by_cases c7 : t188 = true
     · subst c7
       have H1 : (if 3 ≤ (y177.length : Int) then ((code_Check.f k (y177.take 3)).bind fun t194 => (if t194 = 2 then ((code_Check.f k (([(⟨0, 0, 0, ([] : List (S41))⟩ : S37)] : List (S37)))).bind fun t198 => (if t198 = 1 then ((code_Check.f k ([] : List (S37))).bind fun t199 => (if t199 = 0 then ((code_Check.f k (([(⟨4, 1, 0, (([(⟨1, 0⟩ : S41)] : List (S41)))⟩ : S37)] : List (S37)))).bind fun t206 => (if t206 = 2 then (some true) else (some false))) else (some false))) else (some false))) else (some false))) else (none)) = some r := by rw [if_pos rfl] at H; exact H
       clear H
       have H := H1
       clear H1
       by_cases c8 : 3 ≤ (y177.length : Int)
       · rw [if_pos c8] at H
         have c8b0 := eq_true c8
         have c8b1 : decide (3 ≤ (y177.length : Int)) = true := decide_eq_true c8
         clear c8
         obtain ⟨y189, hy189⟩ : ∃ y_ : List (S37), y_ = (y177.take 3) := ⟨_, rfl⟩
         replace H : ((code_Check.f k y189).bind fun t194 => (if t194 = 2 then ((code_Check.f k (([(⟨0, 0, 0, ([] : List (S41))⟩ : S37)] : List (S37)))).bind fun t198 => (if t198 = 1 then ((code_Check.f k ([] : List (S37))).bind fun t199 => (if t199 = 0 then ((code_Check.f k (([(⟨4, 1, 0, (([(⟨1, 0⟩ : S41)] : List (S41)))⟩ : S37)] : List (S37)))).bind fun t206 => (if t206 = 2 then (some true) else (some false))) else (some false))) else (some false))) else (some false))) = some r := by first | (rw [hy189]; with_reducible exact H) | (have H2_ := (Option.bind_some _ _).symm.trans H; rw [hy189]; with_reducible exact H2_) | (have H2_ := (Option.bind_some _ _).symm.trans H; with_reducible exact H2_) | with_reducible exact H | (rw [hy189]; exact H) | exact H
         have Ny189 := Aside0.mk hy189
         clear hy189
         replace H := Option.bind_eq_some_iff.mp H
         obtain ⟨t194, A90, H⟩ := H
         replace H : (if t194 = 2 then ((code_Check.f k (([(⟨0, 0, 0, ([] : List (S41))⟩ : S37)] : List (S37)))).bind fun t198 => (if t198 = 1 then ((code_Check.f k ([] : List (S37))).bind fun t199 => (if t199 = 0 then ((code_Check.f k (([(⟨4, 1, 0, (([(⟨1, 0⟩ : S41)] : List (S41)))⟩ : S37)] : List (S37)))).bind fun t206 => (if t206 = 2 then (some true) else (some false))) else (some false))) else (some false))) else (some false)) = some r := H
         have A9 := Aside0.mk A90
         clear A90
         by_cases c10 : t194 = 2
         · rw [if_pos c10] at H
           have c10b0 : (t194 == 2) = true := beq_iff_eq.mpr c10
           have c10b1 : (t194 != 2) = false := bne_eq_false_iff_eq.mpr c10
           clear c10
           obtain ⟨y195, hy195⟩ : ∃ y_ : List (S37), y_ = (([(⟨0, 0, 0, ([] : List (S41))⟩ : S37)] : List (S37))) := ⟨_, rfl⟩
           replace H : ((code_Check.f k y195).bind fun t198 => (if t198 = 1 then ((code_Check.f k ([] : List (S37))).bind fun t199 => (if t199 = 0 then ((code_Check.f k (([(⟨4, 1, 0, (([(⟨1, 0⟩ : S41)] : List (S41)))⟩ : S37)] : List (S37)))).bind fun t206 => (if t206 = 2 then (some true) else (some false))) else (some false))) else (some false))) = some r := by first | (rw [hy195]; with_reducible exact H) | (have H2_ := (Option.bind_some _ _).symm.trans H; rw [hy195]; with_reducible exact H2_) | (have H2_ := (Option.bind_some _ _).symm.trans H; with_reducible exact H2_) | with_reducible exact H | (rw [hy195]; exact H) | exact H
           have Ny195 := Aside0.mk hy195
           clear hy195
           replace H := Option.bind_eq_some_iff.mp H
           obtain ⟨t198, A110, H⟩ := H
           replace H : (if t198 = 1 then ((code_Check.f k ([] : List (S37))).bind fun t199 => (if t199 = 0 then ((code_Check.f k (([(⟨4, 1, 0, (([(⟨1, 0⟩ : S41)] : List (S41)))⟩ : S37)] : List (S37)))).bind fun t206 => (if t206 = 2 then (some true) else (some false))) else (some false))) else (some false)) = some r := H
           have A11 := Aside0.mk A110
           clear A110
           by_cases c12 : t198 = 1
           · rw [if_pos c12] at H
             have c12b0 : (t198 == 1) = true := beq_iff_eq.mpr c12
             have c12b1 : (t198 != 1) = false := bne_eq_false_iff_eq.mpr c12
             clear c12
             replace H := Option.bind_eq_some_iff.mp H
             obtain ⟨t199, A130, H⟩ := H
             replace H : (if t199 = 0 then ((code_Check.f k (([(⟨4, 1, 0, (([(⟨1, 0⟩ : S41)] : List (S41)))⟩ : S37)] : List (S37)))).bind fun t206 => (if t206 = 2 then (some true) else (some false))) else (some false)) = some r := H
             have A13 := Aside0.mk A130
             clear A130
             by_cases c14 : t199 = 0
             · rw [if_pos c14] at H
               have c14b0 : (t199 == 0) = true := beq_iff_eq.mpr c14
               have c14b1 : (t199 != 0) = false := bne_eq_false_iff_eq.mpr c14
               clear c14
               obtain ⟨y200, hy200⟩ : ∃ y_ : List (S41), y_ = (([(⟨1, 0⟩ : S41)] : List (S41))) := ⟨_, rfl⟩
               replace H : ((code_Check.f k (([(⟨4, 1, 0, y200⟩ : S37)] : List (S37)))).bind fun t206 => (if t206 = 2 then (some true) else (some false))) = some r := by first | (rw [hy200]; with_reducible exact H) | (have H2_ := (Option.bind_some _ _).symm.trans H; rw [hy200]; with_reducible exact H2_) | (have H2_ := (Option.bind_some _ _).symm.trans H; with_reducible exact H2_) | with_reducible exact H | (rw [hy200]; exact H) | exact H
               have Ny200 := Aside0.mk hy200
               clear hy200
               obtain ⟨y203, hy203⟩ : ∃ y_ : List (S37), y_ = (([(⟨4, 1, 0, y200⟩ : S37)] : List (S37))) := ⟨_, rfl⟩
               replace H : ((code_Check.f k y203).bind fun t206 => (if t206 = 2 then (some true) else (some false))) = some r := by first | (rw [hy203]; with_reducible exact H) | (have H2_ := (Option.bind_some _ _).symm.trans H; rw [hy203]; with_reducible exact H2_) | (have H2_ := (Option.bind_some _ _).symm.trans H; with_reducible exact H2_) | with_reducible exact H | (rw [hy203]; exact H) | exact H
               have Ny203 := Aside0.mk hy203
               clear hy203
               replace H := Option.bind_eq_some_iff.mp H
               obtain ⟨t206, A150, H⟩ := H
               replace H : (if t206 = 2 then (some true) else (some false)) = some r := H
               have A15 := Aside0.mk A150
               clear A150
               by_cases c16 : t206 = 2
               · rw [if_pos c16] at H
                 have c16b0 : (t206 == 2) = true := beq_iff_eq.mpr c16
                 have c16b1 : (t206 != 2) = false := bne_eq_false_iff_eq.mpr c16
                 clear c16
                 obtain rfl := Option.some.inj H
                 go_enter Try.func16, Try.ntmps16
                 go_wp2_with (first | ((with_reducible refine gate_dst (N := 6) rfl ?_); (try (refine gate_guard (by rfl) ?_; dsimp only)); refine Kd.N_lit k37 _ 37 ?hg (N' := 6) ?hd (xs := ([(⟨7, 2, 1, ([] : List (S41))⟩ : S37), (⟨1, 1, 9, ([] : List (S41))⟩ : S37), (⟨5, 0, 0, ([] : List (S41))⟩ : S37), (⟨6, 4, 0, ([] : List (S41))⟩ : S37)] : List (S37))) (inner := [.int .i64 7, .int .i64 2, .int .i64 1, .slice none 0 0, .int .i64 1, .int .i64 1, .int .i64 9, .slice none 0 0, .int .i64 5, .int .i64 0, .int .i64 0, .slice none 0 0, .int .i64 6, .int .i64 4, .int .i64 0, .slice none 0 0]) (ok := (fun _ => True)) (okp := (fun _ => True)) ?hr ?hp (fun _ hk => hk) ((show ∀ k_, w.heap.size ≤ k_ → (fun _ => True) k_ from fun k_ hk => trivial) _ (Nat.le_refl _)) (Below.refl _ _) (Nat.le_refl _) (by simp) ?_; (case hd => rfl); (case hg => rfl); (case hr => first | (go_simp; done) | (go_simp; rfl)); (case hp => exact (Reps.c4 (show Kd.FK k37 _ _ (⟨7, 2, 1, ([] : List (S41))⟩ : S37) [.int .i64 7, .int .i64 2, .int .i64 1, .slice none 0 0] from (k37_mkF _ _ (⟨7, 2, 1, ([] : List (S41))⟩ : S37) (Nat.le_refl _) (Kd.F_nil _ _ _))) (Reps.c4 (show Kd.FK k37 _ _ (⟨1, 1, 9, ([] : List (S41))⟩ : S37) [.int .i64 1, .int .i64 1, .int .i64 9, .slice none 0 0] from (k37_mkF _ _ (⟨1, 1, 9, ([] : List (S41))⟩ : S37) (Nat.le_refl _) (Kd.F_nil _ _ _))) (Reps.c4 (show Kd.FK k37 _ _ (⟨5, 0, 0, ([] : List (S41))⟩ : S37) [.int .i64 5, .int .i64 0, .int .i64 0, .slice none 0 0] from (k37_mkF _ _ (⟨5, 0, 0, ([] : List (S41))⟩ : S37) (Nat.le_refl _) (Kd.F_nil _ _ _))) (Reps.c4 (show Kd.FK k37 _ _ (⟨6, 4, 0, ([] : List (S41))⟩ : S37) [.int .i64 6, .int .i64 4, .int .i64 0, .slice none 0 0] from (k37_mkF _ _ (⟨6, 4, 0, ([] : List (S41))⟩ : S37) (Nat.le_refl _) (Kd.F_nil _ _ _))) (Reps.none _ _)))))); intro v178 w17 ho18 hb hg_ hnew_; clear hg_ hnew_; (first | rw [← Ny177.out] at ho18 | (simp only [Int.reduceToNat] at ho18; rw [← Ny177.out] at ho18)); have n0_ := Aside0.mk (Kd.N_lower ho18 bsz_); have n1_ := Aside0.mk (bst_ hb); clear HB; have HO179 := n0_; have HB := n1_; clear n0_ n1_; clear hb ho18; obtain ⟨Ao19, co19, eo19⟩ := Kd.N_slice HO179.out; subst eo19) | ((with_reducible refine gate_callee (f := 18) rfl ?_); refine goesL_ (some 8) rfl rfl Try.func18 (by kernel_rfl) rfl #[.slice Ao19 y177.length co19] rfl (by (try simp only [List.map_toArray, List.map_cons, List.map_nil]); first | done | rfl) ?_; (with_reducible refine (code_Check.calls k _ _ y177 t180 _ ?side1 ?side2 A1.out).mono ?_); (case side1 => repeat (first | exact (Kd.N_reads' HO179.out).2.2 | with_reducible first | refine Kd.C_alloc ?_ _ | refine Kd.C_drewN ?_ _ | refine Kd.C_drew ?_)); (case side2 => exact (Kd.N_reads' HO179.out).2.1); rintro e w20 ⟨rfl, hb⟩; refine ⟨_, rfl, ?_⟩; have n0_ := Aside0.mk (Kd.N_below (by (with_reducible repeat (first | apply Kd.N_alloc | apply Kd.N_drewN | apply Kd.N_drew)); exact HO179.out) hb); have n1_ := Aside0.mk (bst_ hb); clear HO179; clear HB; have HO179 := n0_; have HB := n1_; clear n0_ n1_; (try clear hb); (try clear hb2); (try clear hk); (try clear hi)) | (go_at_call 20; (with_reducible refine (code_Deep.calls k _ _ y177 t181 _ ?side1 ?side2 A3.out).mono ?_); (case side1 => repeat (first | exact (Kd.N_reads' HO179.out).2.2 | with_reducible first | refine Kd.C_alloc ?_ _ | refine Kd.C_drewN ?_ _ | refine Kd.C_drew ?_)); (case side2 => exact (Kd.N_reads' HO179.out).2.1); rintro e w21 ⟨rfl, hb⟩; have n0_ := Aside0.mk (Kd.N_below (by (with_reducible repeat (first | apply Kd.N_alloc | apply Kd.N_drewN | apply Kd.N_drew)); exact HO179.out) hb); have n1_ := Aside0.mk (bst_ hb); clear HO179; clear HB; have HO179 := n0_; have HB := n1_; clear n0_ n1_; (try clear hb); (try clear hb2); (try clear hk); (try clear hi)) | (go_at_call 23; (with_reducible refine (code_Cells.calls k _ _ y177 t182 _ ?side1 ?side2 A5.out).mono ?_); (case side1 => repeat (first | exact (Kd.N_reads' HO179.out).2.2 | with_reducible first | refine Kd.C_alloc ?_ _ | refine Kd.C_drewN ?_ _ | refine Kd.C_drew ?_)); (case side2 => exact (Kd.N_reads' HO179.out).2.1); rintro e w22 ⟨v183, rfl, ho0, hb⟩; have n0_ := Aside0.mk (Kd.N_elder' (by (with_reducible repeat (first | apply Kd.N_alloc | apply Kd.N_drewN | apply Kd.N_drew)); exact HO179.out) (Kd.R_base ho0) hb); have n1_ := Aside0.mk (Kd.R_lower ho0 bsz_); have n2_ := Aside0.mk (bst_ hb); clear HO179; clear HB; have HO179 := n0_; have HO184 := n1_; have HB := n2_; clear n0_ n1_ n2_; (try clear hb); (try clear hb2); (try clear hk); (try clear hi); (try clear ho0)) | ((with_reducible refine gate_dst (N := 18) rfl ?_); (try (refine gate_guard (by rfl) ?_; dsimp only)); refine Kd.R_lit (Kd.int .i64) _ 3 ?hg (N := 18) ?hd (xs := ([9] : List Int)) (inner := [.int .i64 9]) (ok := fun _ => True) (okp := fun _ => True) ?hr ?hp (fun _ hk => hk) trivial (Below.refl _ _) (Nat.le_refl _) (by simp) ?_; (case hd => rfl); (case hg => rfl); (case hr => first | (go_simp; done) | (go_simp; rfl)); (case hp => exact (Reps.one (show Kd.M (Kd.int .i64) _ _ _ 9 [.int .i64 9] from rfl) (Reps.none _ _))); intro v186 w23 ho24 hb hg_ hnew_; clear hg_ hnew_; (first | rw [← Ny185.out] at ho24 | (simp only [Int.reduceToNat] at ho24; rw [← Ny185.out] at ho24)); have n0_ := Aside0.mk (Kd.N_elder' (by (with_reducible repeat (first | apply Kd.N_alloc | apply Kd.N_drewN | apply Kd.N_drew)); exact HO179.out) (Kd.R_base ho24) hb); have n1_ := Aside0.mk (Kd.R_elder' (by (with_reducible repeat (first | apply Kd.R_alloc | apply Kd.R_drewN | apply Kd.R_drew)); exact HO184.out) (Kd.R_base ho24) hb); have n2_ := Aside0.mk (Kd.R_lower (Kd.R_new' ho24 (Kd.R_lt (by (with_reducible repeat (first | apply Kd.R_alloc | apply Kd.R_drewN | apply Kd.R_drew)); exact HO184.out))) bsz_); have n3_ := Aside0.mk (bst_ hb); clear HO179; clear HO184; clear HB; have HO179 := n0_; have HO184 := n1_; have HO187 := n2_; have HB := n3_; clear n0_ n1_ n2_ n3_; clear hb ho24; obtain ⟨Ao25, co25, eo25⟩ := Kd.R_slice HO184.out; subst eo25; obtain ⟨Ao26, co26, eo26⟩ := Kd.R_slice HO187.out; subst eo26) | (go_at_call 22; (with_reducible refine (handshakerref03_Numbers.calls k _ _ t182 _ _ y185 true _ ?side1 ?side2 ?side3 ?side4 A6.out).mono ?_); (case side1 => repeat (first | exact (Kd.R_reads' HO184.out).2.2 | with_reducible first | refine Kd.C_alloc ?_ _ | refine Kd.C_drewN ?_ _ | refine Kd.C_drew ?_)); (case side2 => exact (Kd.R_reads' HO184.out).2.1); (case side3 => repeat (first | exact (Kd.R_reads' HO187.out).2.2 | with_reducible first | refine Kd.C_alloc ?_ _ | refine Kd.C_drewN ?_ _ | refine Kd.C_drew ?_)); (case side4 => exact (Kd.R_reads' HO187.out).2.1); rintro e w' ⟨rfl, ⟨nd, rfl⟩⟩; have q27 : (3 : Int) ≤ ((y177.length : Int) : Int) := of_decide_eq_true (by first | (with_reducible assumption) | assumption); obtain ⟨i027, hi027, _, hsz27, _⟩ := info_parts info37; have hroom27 : y177.length ≤ co19 := (Kd.N_reads' HO179.out).2.1; have hC27 : Kd.F k37 _ _ Ao19 y177.length y177 := (Kd.V_at (base := w.heap.size) (Kd.N_V HO179.out)).2.2; have hcut27 := cut_to (P := Try.prog) 22 37 .i64 Try.underlying22 hi027 Ao19 y177.length co19 3 (by omega) q27 hroom27; have hr27 := Kd.F_take (m := 3) hC27 (by omega); have hy27 : y189.length = (3 : Int).toNat := (by rw [Ny189.out, List.length_take]; omega); rw [← Ny189.out] at hr27; rw [← hy27] at hcut27; have HO193 := Aside0.mk (show Kd.V k37 37 _ w.heap.size _ (.slice Ao19 y189.length co19) y189 from Kd.V_mk (by omega) hr27); have HC193 := Aside0.mk (show y189.length ≤ co19 from by omega); clear hr27 hC27 hroom27 hi027 hsz27; have KY27 := Aside0.mk hy27; clear hy27; replace q27 := eq_true q27) | (go_at_call 18; (with_reducible refine (code_Check.calls k _ _ y189 t194 _ ?side1 ?side2 A9.out).mono ?_); (case side1 => repeat (first | exact (Kd.V_reads' HO193.out).2.2 | with_reducible first | refine Kd.C_alloc ?_ _ | refine Kd.C_drewN ?_ _ | refine Kd.C_drew ?_)); (case side2 => exact (Kd.V_reads' HO193.out).2.1); rintro e w28 ⟨rfl, hb⟩; have n0_ := Aside0.mk (Kd.N_below (by (with_reducible repeat (first | apply Kd.N_alloc | apply Kd.N_drewN | apply Kd.N_drew)); exact HO179.out) hb); have n1_ := Aside0.mk (Kd.R_below (by (with_reducible repeat (first | apply Kd.R_alloc | apply Kd.R_drewN | apply Kd.R_drew)); exact HO184.out) hb); have n2_ := Aside0.mk (Kd.R_below (by (with_reducible repeat (first | apply Kd.R_alloc | apply Kd.R_drewN | apply Kd.R_drew)); exact HO187.out) hb); have n3_ := Aside0.mk (Kd.V_below (by (with_reducible repeat (first | apply Kd.V_alloc | apply Kd.V_drewN | apply Kd.V_drew)); exact HO193.out) hb); have n4_ := Aside0.mk (bst_ hb); clear HO179; clear HO184; clear HO187; clear HO193; clear HB; have HO179 := n0_; have HO184 := n1_; have HO187 := n2_; have HO193 := n3_; have HB := n4_; clear n0_ n1_ n2_ n3_ n4_; (try clear hb); (try clear hb2); (try clear hk); (try clear hi)) | ((with_reducible refine gate_dst (N := 29) rfl ?_); (try (refine gate_guard (by rfl) ?_; dsimp only)); refine Kd.N_lit k37 _ 37 ?hg (N' := 29) ?hd (xs := ([(⟨0, 0, 0, ([] : List (S41))⟩ : S37)] : List (S37))) (inner := [.int .i64 0, .int .i64 0, .int .i64 0, .slice none 0 0]) (ok := (fun k_ => some k_ ≠ (.slice Ao19 y177.length co19 : Value).ownBlock ∧ some k_ ≠ (.slice Ao25 t182.length co25 : Value).ownBlock ∧ some k_ ≠ (.slice Ao26 y185.length co26 : Value).ownBlock)) (okp := (fun k_ => some k_ ≠ (.slice Ao19 y177.length co19 : Value).ownBlock ∧ some k_ ≠ (.slice Ao25 t182.length co25 : Value).ownBlock ∧ some k_ ≠ (.slice Ao26 y185.length co26 : Value).ownBlock)) ?hr ?hp (fun _ hk => hk) ((show ∀ k_, w28.heap.size ≤ k_ → (fun k_ => some k_ ≠ (.slice Ao19 y177.length co19 : Value).ownBlock ∧ some k_ ≠ (.slice Ao25 t182.length co25 : Value).ownBlock ∧ some k_ ≠ (.slice Ao26 y185.length co26 : Value).ownBlock) k_ from fun k_ hk => ⟨Kd.fresh' (Kd.N_lt (by (with_reducible repeat (first | apply Kd.N_alloc | apply Kd.N_drewN | apply Kd.N_drew)); exact HO179.out)) k_ hk, Kd.fresh' (Kd.R_lt (by (with_reducible repeat (first | apply Kd.R_alloc | apply Kd.R_drewN | apply Kd.R_drew)); exact HO184.out)) k_ hk, Kd.fresh' (Kd.R_lt (by (with_reducible repeat (first | apply Kd.R_alloc | apply Kd.R_drewN | apply Kd.R_drew)); exact HO187.out)) k_ hk⟩) _ (Nat.le_refl _)) (Below.refl _ _) (Nat.le_refl _) (by simp) ?_; (case hd => rfl); (case hg => rfl); (case hr => first | (go_simp; done) | (go_simp; rfl)); (case hp => exact (Reps.c4 (show Kd.FK k37 _ _ (⟨0, 0, 0, ([] : List (S41))⟩ : S37) [.int .i64 0, .int .i64 0, .int .i64 0, .slice none 0 0] from (k37_mkF _ _ (⟨0, 0, 0, ([] : List (S41))⟩ : S37) (Nat.le_refl _) (Kd.F_nil _ _ _))) (Reps.none _ _))); intro v196 w29 ho30 hb hg_ hnew_; clear hg_ hnew_; (first | rw [← Ny195.out] at ho30 | (simp only [Int.reduceToNat] at ho30; rw [← Ny195.out] at ho30)); have n0_ := Aside0.mk (Kd.N_elder' (by (with_reducible repeat (first | apply Kd.N_alloc | apply Kd.N_drewN | apply Kd.N_drew)); exact HO179.out) (Kd.N_base ho30) hb); have n1_ := Aside0.mk (Kd.R_below (by (with_reducible repeat (first | apply Kd.R_alloc | apply Kd.R_drewN | apply Kd.R_drew)); exact HO184.out) hb); have n2_ := Aside0.mk (Kd.R_below (by (with_reducible repeat (first | apply Kd.R_alloc | apply Kd.R_drewN | apply Kd.R_drew)); exact HO187.out) hb); have n3_ := Aside0.mk (Kd.V_elder' (by (with_reducible repeat (first | apply Kd.V_alloc | apply Kd.V_drewN | apply Kd.V_drew)); exact HO193.out) (Kd.N_base ho30) hb); have n4_ := Aside0.mk (Kd.N_lower ho30 bsz_); have n5_ := Aside0.mk (bst_ hb); clear HO179; clear HO184; clear HO187; clear HO193; clear HB; have HO179 := n0_; have HO184 := n1_; have HO187 := n2_; have HO193 := n3_; have HO197 := n4_; have HB := n5_; clear n0_ n1_ n2_ n3_ n4_ n5_; clear hb ho30; obtain ⟨Ao31, co31, eo31⟩ := Kd.N_slice HO197.out; subst eo31) | (go_at_call 18; (with_reducible refine (code_Check.calls k _ _ y195 t198 _ ?side1 ?side2 A11.out).mono ?_); (case side1 => repeat (first | exact (Kd.N_reads' HO197.out).2.2 | with_reducible first | refine Kd.C_alloc ?_ _ | refine Kd.C_drewN ?_ _ | refine Kd.C_drew ?_)); (case side2 => exact (Kd.N_reads' HO197.out).2.1); rintro e w32 ⟨rfl, hb⟩; have n0_ := Aside0.mk (Kd.N_below (by (with_reducible repeat (first | apply Kd.N_alloc | apply Kd.N_drewN | apply Kd.N_drew)); exact HO179.out) hb); have n1_ := Aside0.mk (Kd.R_below (by (with_reducible repeat (first | apply Kd.R_alloc | apply Kd.R_drewN | apply Kd.R_drew)); exact HO184.out) hb); have n2_ := Aside0.mk (Kd.R_below (by (with_reducible repeat (first | apply Kd.R_alloc | apply Kd.R_drewN | apply Kd.R_drew)); exact HO187.out) hb); have n3_ := Aside0.mk (Kd.V_below (by (with_reducible repeat (first | apply Kd.V_alloc | apply Kd.V_drewN | apply Kd.V_drew)); exact HO193.out) hb); have n4_ := Aside0.mk (Kd.N_below (by (with_reducible repeat (first | apply Kd.N_alloc | apply Kd.N_drewN | apply Kd.N_drew)); exact HO197.out) hb); have n5_ := Aside0.mk (bst_ hb); clear HO179; clear HO184; clear HO187; clear HO193; clear HO197; clear HB; have HO179 := n0_; have HO184 := n1_; have HO187 := n2_; have HO193 := n3_; have HO197 := n4_; have HB := n5_; clear n0_ n1_ n2_ n3_ n4_ n5_; (try clear hb); (try clear hb2); (try clear hk); (try clear hi)) | (go_at_call 18; refine calls_of_args (args' := #[.slice none 0 0]) (by first | done | rfl) ?_; (refine (code_Check.calls k _ _ ([] : List (S37)) t199 _ ?side1 ?side2 A13.out).mono ?_); (case side1 => exact Kd.C_nil _ _); (case side2 => exact Nat.le_refl _); rintro e w33 ⟨rfl, hb⟩; have n0_ := Aside0.mk (Kd.N_below (by (with_reducible repeat (first | apply Kd.N_alloc | apply Kd.N_drewN | apply Kd.N_drew)); exact HO179.out) hb); have n1_ := Aside0.mk (Kd.R_below (by (with_reducible repeat (first | apply Kd.R_alloc | apply Kd.R_drewN | apply Kd.R_drew)); exact HO184.out) hb); have n2_ := Aside0.mk (Kd.R_below (by (with_reducible repeat (first | apply Kd.R_alloc | apply Kd.R_drewN | apply Kd.R_drew)); exact HO187.out) hb); have n3_ := Aside0.mk (Kd.V_below (by (with_reducible repeat (first | apply Kd.V_alloc | apply Kd.V_drewN | apply Kd.V_drew)); exact HO193.out) hb); have n4_ := Aside0.mk (Kd.N_below (by (with_reducible repeat (first | apply Kd.N_alloc | apply Kd.N_drewN | apply Kd.N_drew)); exact HO197.out) hb); have n5_ := Aside0.mk (bst_ hb); clear HO179; clear HO184; clear HO187; clear HO193; clear HO197; clear HB; have HO179 := n0_; have HO184 := n1_; have HO187 := n2_; have HO193 := n3_; have HO197 := n4_; have HB := n5_; clear n0_ n1_ n2_ n3_ n4_ n5_; (try clear hb); (try clear hb2); (try clear hk); (try clear hi)) | ((with_reducible refine gate_dst (N := 39) rfl ?_); (try (refine gate_guard (by rfl) ?_; dsimp only)); refine Kd.R_lit k41 _ 41 ?hg (N := 39) ?hd (xs := ([(⟨1, 0⟩ : S41)] : List (S41))) (inner := [.int .i64 1, .int .i64 0]) (ok := fun _ => True) (okp := fun _ => True) ?hr ?hp (fun _ hk => hk) trivial (Below.refl _ _) (Nat.le_refl _) (by simp) ?_; (case hd => rfl); (case hg => rfl); (case hr => first | (go_simp; done) | (go_simp; rfl)); (case hp => exact (Reps.c2 (show Kd.M k41 _ _ _ (⟨1, 0⟩ : S41) [.int .i64 1, .int .i64 0] from (k41_mkM _ _ _ (⟨1, 0⟩ : S41) )) (Reps.none _ _))); intro v201 w34 ho35 hb hg_ hnew_; clear hg_ hnew_; (first | rw [← Ny200.out] at ho35 | (simp only [Int.reduceToNat] at ho35; rw [← Ny200.out] at ho35)); have n0_ := Aside0.mk (Kd.N_elder' (by (with_reducible repeat (first | apply Kd.N_alloc | apply Kd.N_drewN | apply Kd.N_drew)); exact HO179.out) (Kd.R_base ho35) hb); have n1_ := Aside0.mk (Kd.R_below (by (with_reducible repeat (first | apply Kd.R_alloc | apply Kd.R_drewN | apply Kd.R_drew)); exact HO184.out) hb); have n2_ := Aside0.mk (Kd.R_below (by (with_reducible repeat (first | apply Kd.R_alloc | apply Kd.R_drewN | apply Kd.R_drew)); exact HO187.out) hb); have n3_ := Aside0.mk (Kd.V_elder' (by (with_reducible repeat (first | apply Kd.V_alloc | apply Kd.V_drewN | apply Kd.V_drew)); exact HO193.out) (Kd.R_base ho35) hb); have n4_ := Aside0.mk (Kd.N_elder' (by (with_reducible repeat (first | apply Kd.N_alloc | apply Kd.N_drewN | apply Kd.N_drew)); exact HO197.out) (Kd.R_base ho35) hb); have n5_ := Aside0.mk (Kd.R_lower ho35 bsz_); have n6_ := Aside0.mk (bst_ hb); clear HO179; clear HO184; clear HO187; clear HO193; clear HO197; clear HB; have HO179 := n0_; have HO184 := n1_; have HO187 := n2_; have HO193 := n3_; have HO197 := n4_; have HO202 := n5_; have HB := n6_; clear n0_ n1_ n2_ n3_ n4_ n5_ n6_; clear hb ho35; obtain ⟨Ao36, co36, eo36⟩ := Kd.R_slice HO202.out; subst eo36) | ((with_reducible refine gate_dst (N := 41) rfl ?_); (try (refine gate_guard (by rfl) ?_; dsimp only)); refine Kd.N_lit k37 _ 37 ?hg (N' := 41) ?hd (xs := ([(⟨4, 1, 0, y200⟩ : S37)] : List (S37))) (inner := [.int .i64 4, .int .i64 1, .int .i64 0, .slice Ao36 y200.length co36]) (ok := (fun k_ => some k_ ≠ (.slice Ao19 y177.length co19 : Value).ownBlock ∧ some k_ ≠ (.slice Ao25 t182.length co25 : Value).ownBlock ∧ some k_ ≠ (.slice Ao26 y185.length co26 : Value).ownBlock ∧ some k_ ≠ (.slice Ao31 y195.length co31 : Value).ownBlock)) (okp := (fun k_ => some k_ ≠ (.slice Ao19 y177.length co19 : Value).ownBlock ∧ some k_ ≠ (.slice Ao25 t182.length co25 : Value).ownBlock ∧ some k_ ≠ (.slice Ao26 y185.length co26 : Value).ownBlock ∧ some k_ ≠ (.slice Ao31 y195.length co31 : Value).ownBlock)) ?hr ?hp (fun _ hk => hk) ((show ∀ k_, w34.heap.size ≤ k_ → (fun k_ => some k_ ≠ (.slice Ao19 y177.length co19 : Value).ownBlock ∧ some k_ ≠ (.slice Ao25 t182.length co25 : Value).ownBlock ∧ some k_ ≠ (.slice Ao26 y185.length co26 : Value).ownBlock ∧ some k_ ≠ (.slice Ao31 y195.length co31 : Value).ownBlock) k_ from fun k_ hk => ⟨Kd.fresh' (Kd.N_lt (by (with_reducible repeat (first | apply Kd.N_alloc | apply Kd.N_drewN | apply Kd.N_drew)); exact HO179.out)) k_ hk, Kd.fresh' (Kd.R_lt (by (with_reducible repeat (first | apply Kd.R_alloc | apply Kd.R_drewN | apply Kd.R_drew)); exact HO184.out)) k_ hk, Kd.fresh' (Kd.R_lt (by (with_reducible repeat (first | apply Kd.R_alloc | apply Kd.R_drewN | apply Kd.R_drew)); exact HO187.out)) k_ hk, Kd.fresh' (Kd.N_lt (by (with_reducible repeat (first | apply Kd.N_alloc | apply Kd.N_drewN | apply Kd.N_drew)); exact HO197.out)) k_ hk⟩) _ (Nat.le_refl _)) (Below.refl _ _) (Nat.le_refl _) (by simp) ?_; (case hd => rfl); (case hg => rfl); (case hr => first | (go_simp; done) | (go_simp; rfl)); (case hp => exact (Reps.c4 (show Kd.FK k37 _ _ (⟨4, 1, 0, y200⟩ : S37) [.int .i64 4, .int .i64 1, .int .i64 0, .slice Ao36 y200.length co36] from (k37_mkF _ _ (⟨4, 1, 0, y200⟩ : S37) (Kd.R_reads' (Kd.R_mono (ok' := (fun k_ => some k_ ≠ (.slice Ao19 y177.length co19 : Value).ownBlock ∧ some k_ ≠ (.slice Ao25 t182.length co25 : Value).ownBlock ∧ some k_ ≠ (.slice Ao26 y185.length co26 : Value).ownBlock ∧ some k_ ≠ (.slice Ao31 y195.length co31 : Value).ownBlock)) (Kd.R_apart' (Kd.R_apart' (Kd.R_apart' (Kd.R_apart' (HO202.out) (Kd.N_typed HO179.out) (by decide)) (Kd.R_typed HO184.out) (by decide)) (Kd.R_typed HO187.out) (by decide)) (Kd.N_typed HO197.out) (by decide)) (fun k_ hk => ⟨hk.1.1.1.2, ⟨hk.1.1.2, ⟨hk.1.2, hk.2⟩⟩⟩))).2.1 (Kd.R_F (Kd.R_mono (ok' := (fun k_ => some k_ ≠ (.slice Ao19 y177.length co19 : Value).ownBlock ∧ some k_ ≠ (.slice Ao25 t182.length co25 : Value).ownBlock ∧ some k_ ≠ (.slice Ao26 y185.length co26 : Value).ownBlock ∧ some k_ ≠ (.slice Ao31 y195.length co31 : Value).ownBlock)) (Kd.R_apart' (Kd.R_apart' (Kd.R_apart' (Kd.R_apart' (HO202.out) (Kd.N_typed HO179.out) (by decide)) (Kd.R_typed HO184.out) (by decide)) (Kd.R_typed HO187.out) (by decide)) (Kd.N_typed HO197.out) (by decide)) (fun k_ hk => ⟨hk.1.1.1.2, ⟨hk.1.1.2, ⟨hk.1.2, hk.2⟩⟩⟩))))) (Reps.none _ _))); intro v204 w37 ho38 hb hg_ hnew_; clear hg_ hnew_; (first | rw [← Ny203.out] at ho38 | (simp only [Int.reduceToNat] at ho38; rw [← Ny203.out] at ho38)); have n0_ := Aside0.mk (Kd.N_elder' (by (with_reducible repeat (first | apply Kd.N_alloc | apply Kd.N_drewN | apply Kd.N_drew)); exact HO179.out) (Kd.N_base ho38) hb); have n1_ := Aside0.mk (Kd.R_below (by (with_reducible repeat (first | apply Kd.R_alloc | apply Kd.R_drewN | apply Kd.R_drew)); exact HO184.out) hb); have n2_ := Aside0.mk (Kd.R_below (by (with_reducible repeat (first | apply Kd.R_alloc | apply Kd.R_drewN | apply Kd.R_drew)); exact HO187.out) hb); have n3_ := Aside0.mk (Kd.V_elder' (by (with_reducible repeat (first | apply Kd.V_alloc | apply Kd.V_drewN | apply Kd.V_drew)); exact HO193.out) (Kd.N_base ho38) hb); have n4_ := Aside0.mk (Kd.N_elder' (by (with_reducible repeat (first | apply Kd.N_alloc | apply Kd.N_drewN | apply Kd.N_drew)); exact HO197.out) (Kd.N_base ho38) hb); have n5_ := Aside0.mk (Kd.N_lower ho38 bsz_); have n6_ := Aside0.mk (bst_ hb); clear HO179; clear HO184; clear HO187; clear HO193; clear HO197; clear HB; clear HO202; have HO179 := n0_; have HO184 := n1_; have HO187 := n2_; have HO193 := n3_; have HO197 := n4_; have HO205 := n5_; have HB := n6_; clear n0_ n1_ n2_ n3_ n4_ n5_ n6_; clear hb ho38; obtain ⟨Ao39, co39, eo39⟩ := Kd.N_slice HO205.out; subst eo39) | (go_at_call 18; (with_reducible refine (code_Check.calls k _ _ y203 t206 _ ?side1 ?side2 A15.out).mono ?_); (case side1 => repeat (first | exact (Kd.N_reads' HO205.out).2.2 | with_reducible first | refine Kd.C_alloc ?_ _ | refine Kd.C_drewN ?_ _ | refine Kd.C_drew ?_)); (case side2 => exact (Kd.N_reads' HO205.out).2.1); rintro e w40 ⟨rfl, hb⟩; have n0_ := Aside0.mk (Kd.N_below (by (with_reducible repeat (first | apply Kd.N_alloc | apply Kd.N_drewN | apply Kd.N_drew)); exact HO179.out) hb); have n1_ := Aside0.mk (Kd.R_below (by (with_reducible repeat (first | apply Kd.R_alloc | apply Kd.R_drewN | apply Kd.R_drew)); exact HO184.out) hb); have n2_ := Aside0.mk (Kd.R_below (by (with_reducible repeat (first | apply Kd.R_alloc | apply Kd.R_drewN | apply Kd.R_drew)); exact HO187.out) hb); have n3_ := Aside0.mk (Kd.V_below (by (with_reducible repeat (first | apply Kd.V_alloc | apply Kd.V_drewN | apply Kd.V_drew)); exact HO193.out) hb); have n4_ := Aside0.mk (Kd.N_below (by (with_reducible repeat (first | apply Kd.N_alloc | apply Kd.N_drewN | apply Kd.N_drew)); exact HO197.out) hb); have n5_ := Aside0.mk (Kd.N_below (by (with_reducible repeat (first | apply Kd.N_alloc | apply Kd.N_drewN | apply Kd.N_drew)); exact HO205.out) hb); have n6_ := Aside0.mk (bst_ hb); clear HO179; clear HO184; clear HO187; clear HO193; clear HO197; clear HO205; clear HB; have HO179 := n0_; have HO184 := n1_; have HO187 := n2_; have HO193 := n3_; have HO197 := n4_; have HO205 := n5_; have HB := n6_; clear n0_ n1_ n2_ n3_ n4_ n5_ n6_; (try clear hb); (try clear hb2); (try clear hk); (try clear hi)))
                 go_ret
                 exact ⟨by first | rfl | (simp [errW_none, errW_some] <;> rfl) | (simp [*, errW_none, errW_some] <;> rfl), by repeat (with_reducible first | exact HB.out | apply below_alloc | apply pw_below_drewN | apply below_drew1)⟩
               · rw [if_neg c16] at H
                 have c16b0 : (t206 == 2) = false := beq_eq_false_iff_ne.mpr c16
                 have c16b1 : (t206 != 2) = true := bne_iff_ne.mpr c16
                 exact absurd (Option.some.inj H) (by rw [HT.out]; decide)
             · rw [if_neg c14] at H
               have c14b0 : (t199 == 0) = false := beq_eq_false_iff_ne.mpr c14
               have c14b1 : (t199 != 0) = true := bne_iff_ne.mpr c14
               exact absurd (Option.some.inj H) (by rw [HT.out]; decide)
           · rw [if_neg c12] at H
             have c12b0 : (t198 == 1) = false := beq_eq_false_iff_ne.mpr c12
             have c12b1 : (t198 != 1) = true := bne_iff_ne.mpr c12
             exact absurd (Option.some.inj H) (by rw [HT.out]; decide)
         · rw [if_neg c10] at H
           have c10b0 : (t194 == 2) = false := beq_eq_false_iff_ne.mpr c10
           have c10b1 : (t194 != 2) = true := bne_iff_ne.mpr c10
           exact absurd (Option.some.inj H) (by rw [HT.out]; decide)
       · rw [if_neg c8] at H
         exact absurd H (by simp)
     · replace c7 := Bool.eq_false_iff.mpr c7
       subst c7
       have H1 : (some false) = some r := by rw [if_neg (show ¬ (false = true) by decide)] at H; exact H
       clear H
       have H := H1
       clear H1
       exact absurd (Option.some.inj H) (by rw [HT.out]; decide)
   · rw [if_neg c4] at H
     have c4b0 : (t181 == 1) = false := beq_eq_false_iff_ne.mpr c4
     have c4b1 : (t181 != 1) = true := bne_iff_ne.mpr c4
     exact absurd (Option.some.inj H) (by rw [HT.out]; decide)
 · rw [if_neg c2] at H
   have c2b0 : (t180 == 0) = false := beq_eq_false_iff_ne.mpr c2
   have c2b1 : (t180 != 0) = true := bne_iff_ne.mpr c2
   exact absurd (Option.some.inj H) (by rw [HT.out]; decide)

theorem handshakerlaw08_awake.only (k : Nat) (r : Bool) (h : handshakerlaw08_awake.f k = some r) : r = true := by
 have h1 : handshakerlaw08_awake.f 60 = some true := by decide +kernel
 have h2 := at_rounds (g := handshakerlaw08_awake.f) handshakerlaw08_awake.mono (Nat.le_max_left k 60) h
 have h3 := at_rounds (g := handshakerlaw08_awake.f) handshakerlaw08_awake.mono (Nat.le_max_right k 60) h1
 rw [h2] at h3
 exact Option.some.inj h3
theorem handshakerlaw08_awake.calls (k : Nat) (r : Bool) (w : World) (h : handshakerlaw08_awake.f k = some r) :
 Calls Try.prog 16 #[] w fun e w' => e = .returned (.bool r) ∧ Below w.heap.size w w' :=
 handshakerlaw08_awake.callsT k r w ⟨handshakerlaw08_awake.only k r h⟩ h

/-! ### wfS41 -/
def wfS41 (x : S41) : Prop := (Lit.int .i64 x.f0).wf = true ∧ (Lit.int .i64 x.f1).wf = true

/-! ### wfS37 -/
def wfS37 (x : S37) : Prop := (Lit.int .i64 x.f0).wf = true ∧ (Lit.int .i64 x.f1).wf = true ∧ (Lit.int .i64 x.f2).wf = true ∧ (x.f3.length ≤ maxLen ∧ ∀ y ∈ x.f3, wfS41 y)

end Go.Proofs.Ytbcpnbmegaodbaa.Co
