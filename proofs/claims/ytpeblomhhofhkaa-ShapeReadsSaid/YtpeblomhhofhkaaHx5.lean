-- PRINTED by print.py (a twelfth state) out of the translation. Not trusted: Lean checks it.
import Derived.Test.YtpeblomhhofhkaaHx0
import Derived.Test.YtpeblomhhofhkaaHx3
import Derived.Test.YtpeblomhhofhkaaHx4
namespace Go.Proofs.Ytpeblomhhofhkaa.H
open Go.Proofs.Ytpeblomhhofhkaa.Ho
open Go.RowKit Go.Proofs.YtpeblomhhofhkaaW.PrintWords Go.Proofs.YtpeblomhhofhkaaW.PrintLast Go.Proofs.YtpeblomhhofhkaaW.PrintMore
attribute [local go_sem] max2_int min2_int max_two min_two max_three min_three max_four min_four   -- for this text's walks alone
set_option linter.unusedVariables false
set_option linter.unusedSimpArgs false

/-! ### ho43: slices.IndexFunc, function 43, at whatever function value that reads -/
set_option maxHeartbeats 2000000 in
theorem ho43 (p : S53 → Option Bool) (g : Nat) (la lb : Array Value) (eg : ∀ args w, (callFunc g args).run Try.prog w = .ok (.enter g args) w) (A0 : Option Addr) (c0 : Nat) (l0 : List S53) (r : Int) (w : World)
 (hr0 : Kd.C k53 w A0 l0.length l0)
 (hp : ∀ (W : World) (x : S53) (A3 : Option Addr) (e3 : Nat) (b : Bool), Below w.heap.size w W → x.f3.length ≤ e3 → Kd.C k50 W A3 x.f3.length x.f3 → p x = some b → Calls Try.prog g (la ++ #[.agg #[.int .i64 x.f0, .int .i64 x.f1, .int .i64 x.f2, .slice A3 x.f3.length e3]] ++ lb) W fun e W' => e = .returned (.bool b) ∧ Below W.heap.size W W')
 (h : idxF p l0 0 = some r) :
 Calls Try.prog 43 #[.slice A0 l0.length c0, .func (.func g) la lb] w fun e w' => e = .returned (.int .i64 r) ∧ Below w.heap.size w w' := by
 have hmax : l0.length ≤ 9223372036854775807 := Kd.C_max hr0
 have hread : ∀ (W : World), Below w.heap.size w W → ∀ j : Nat, j < l0.length → ∃ ad A3 e3, A0 = some ad ∧ W.cell? (ad.add (j * 4)) = some (.int .i64 ((rd_T53 l0 j).f0)) ∧ W.cell? ⟨(ad.add (j * 4)).block, (ad.add (j * 4)).off + 1, none⟩ = some (.int .i64 ((rd_T53 l0 j).f1)) ∧ W.cell? ⟨(ad.add (j * 4)).block, (ad.add (j * 4)).off + 2, none⟩ = some (.int .i64 ((rd_T53 l0 j).f2)) ∧ W.cell? ⟨(ad.add (j * 4)).block, (ad.add (j * 4)).off + 3, none⟩ = some (.slice A3 (rd_T53 l0 j).f3.length e3) ∧ (rd_T53 l0 j).f3.length ≤ e3 ∧ Kd.C k50 W A3 (rd_T53 l0 j).f3.length (rd_T53 l0 j).f3 := by
  intro W hW j hj
  have := at_T53 (Kd.C_below hr0 hW) (j : Int) (by omega) (by omega)
  simpa only [Int.toNat_natCast] using this
 generalize hn : l0.length = n at *
 have HR := ak hread
 have HP := ak hp
 have HH := ak h
 clear hread hp h hr0
 have HN := ak hn
 clear hn
 go_enter Try.func43, Try.ntmps43
 go_wp2
 go_loopg [5, 8] n (fun gg _ s8 wr => ∃ kk : Nat, kk ≤ n ∧ n - kk ≤ gg ∧ s8 = .int .i64 kk ∧ Aside0 (Below w.heap.size w wr) ∧ Aside0 (idxF p (l0.drop kk) kk = some r))
 case atStart => exact ⟨0, Nat.zero_le _, by omega, rfl, ⟨Below.refl _ w⟩, ⟨HH.out⟩⟩
 case round =>
  obtain ⟨kk, hkk, hg, rfl, BW, HI⟩ := hrel
  by_cases hlt : kk < n
  rotate_left
  · have hltz : ¬ (kk : Int) < (n : Int) := by omega
    have : kk = n := by omega
    subst this
    have hi := HI.out
    rw [List.drop_of_length_le (by rw [HN.out]; omega)] at hi
    have hi2 : -1 = r := by simpa [idxF] using hi
    clear hi HI
    have HE := ak hi2
    clear hi2
    go_wp2
    go_ret
    exact ⟨by first | rfl | (rw [← HE.out]; rfl) | simp [HE.out], BW.out⟩
  have hltz : (kk : Int) < (n : Int) := by omega
  obtain ⟨ad, A3, e3, e0, q0, q1, q2, q3, hl3, hs3⟩ := HR.out wr BW.out kk hlt
  have hi := HI.out
  rw [idxF_drop p l0 z53 kk (by rw [HN.out]; exact hlt)] at hi
  obtain ⟨b, hb, hi⟩ := Option.bind_eq_some_iff.mp hi
  have hcall := HP.out wr _ A3 e3 b BW.out hl3 hs3 hb
  (try rw [show l0.getD kk z53 = rd_T53 l0 kk from rfl] at hcall)
  generalize rd_T53 l0 kk = y at q0 q1 q2 q3 hl3 hs3 hcall
  subst e0
  clear hb HI
  cases b with
  | true =>
   have hi2 : (kk : Int) = r := by simpa using hi
   clear hi
   have HE := ak hi2
   clear hi2
   go_wp2_with (go_at_fn g; refine hcall.mono ?_; rintro e w' ⟨rfl, hb'⟩)
   go_ret
   exact ⟨by first | rfl | (rw [← HE.out]; rfl) | simp [HE.out], BW.out.trans (hb'.mono BW.out.size)⟩
  | false =>
   have hi2 : idxF p (l0.drop (kk + 1)) (kk + 1) = some r := by simpa using hi
   clear hi
   have HE := ak hi2
   clear hi2
   go_wp2_with (go_at_fn g; refine hcall.mono ?_; rintro e w' ⟨rfl, hb'⟩)
   go_roundg (n - (kk + 1))
   case measure => omega
   case rel =>
    exact ⟨kk + 1, by omega, by omega, by go_num, ⟨BW.out.trans (hb'.mono BW.out.size)⟩, ⟨HE.out⟩⟩

/-! ### ho34: slices.ContainsFunc, function 34 -/
set_option maxHeartbeats 2000000 in
theorem ho34 (p : S53 → Option Bool) (g : Nat) (la lb : Array Value) (eg : ∀ args w, (callFunc g args).run Try.prog w = .ok (.enter g args) w) (A0 : Option Addr) (c0 : Nat) (l0 : List S53) (r : Bool) (w : World)
 (hr0 : Kd.C k53 w A0 l0.length l0)
 (hp : ∀ (W : World) (x : S53) (A3 : Option Addr) (e3 : Nat) (b : Bool), Below w.heap.size w W → x.f3.length ≤ e3 → Kd.C k50 W A3 x.f3.length x.f3 → p x = some b → Calls Try.prog g (la ++ #[.agg #[.int .i64 x.f0, .int .i64 x.f1, .int .i64 x.f2, .slice A3 x.f3.length e3]] ++ lb) W fun e W' => e = .returned (.bool b) ∧ Below W.heap.size W W')
 (h : anyF p l0 = some r) :
 Calls Try.prog 34 #[.slice A0 l0.length c0, .func (.func g) la lb] w fun e w' => e = .returned (.bool r) ∧ Below w.heap.size w w' := by
 obtain ⟨i, hi, hd⟩ := any_idx l0 0 r (by decide) h
 have hc := ak (ho43 p g la lb eg A0 c0 l0 i w hr0 hp hi)
 have HD := ak hd
 clear hd hi h hp hr0 eg
 go_enter Try.func34, Try.ntmps34
 go_wp2_with (go_at_call 43; refine hc.out.mono ?_; rintro e w' ⟨rfl, hb⟩)
 go_ret
 exact ⟨by first | rfl | (rw [← HD.out]; rfl) | simp [HD.out], hb⟩

/-! ### any_at_code_Check_1: function 34 at the function value 35 -/
def any_at_code_Check_1.f (k : Nat) (l0 : List (S53)) : Option (Bool) := anyF (fun x => code_Check_1.f k  x.f0 x.f1 x.f2 x.f3) l0
theorem any_at_code_Check_1.mono : ∀ a0  k, LeO (any_at_code_Check_1.f k a0 ) (any_at_code_Check_1.f (k + 1) a0 ) := by
 intro a0  k
 unfold any_at_code_Check_1.f
 exact anyF_mono (fun x => code_Check_1.mono  x.f0 x.f1 x.f2 x.f3  k) a0
theorem any_at_code_Check_1.calls (k : Nat) (A0 : Option Addr) (c0 : Nat) (l0 : List (S53)) (r : Bool) (w : World) (hr0 : Kd.C k53 w A0 l0.length l0) (hc0 : l0.length ≤ c0) (h : any_at_code_Check_1.f k l0 = some r) :
 Calls Try.prog 34 #[.slice A0 l0.length c0, .func (.func 35) #[] #[]] w fun e w' => e = .returned (.bool r) ∧ Below w.heap.size w w' :=
 ho34 (fun x => code_Check_1.f k  x.f0 x.f1 x.f2 x.f3) 35 #[] #[] (enters_of Try.func35 (by kernel_rfl) rfl) A0 c0 l0 r w hr0 (fun W x A3 e3 b hW_ hl3 hs3 hx => by
  show Calls Try.prog 35 #[.agg #[.int .i64 x.f0, .int .i64 x.f1, .int .i64 x.f2, .slice A3 x.f3.length e3]] W _
  exact (code_Check_1.calls k  x.f0 x.f1 x.f2 A3 e3 x.f3 b W hs3 hl3 hx).mono (fun e W' ⟨he, hd⟩ => ⟨he, hd⟩)) h

/-! ### code_Check: function 21 -/
def code_Check.j0 : Nat → List (S53) → Bool → Option (Int)
 | 0, _, _ => none
 | k + 1, x0, x10 => if x10 = true then (some 1) else ((code_deep.f k x0).bind fun t159 => (if t159 < 0 then (some 2) else (if t159 > 6 then (some 5) else (some 0))))
def code_Check.f (k : Nat) (l0 : List (S53)) : Option (Int) := if (l0.length : Int) > 24 then (code_Check.j0 k l0 true) else ((any_at_code_Check_1.f k l0).bind fun t158 => (code_Check.j0 k l0 t158))
theorem code_Check.mono_l : ∀ k, (∀ y0 y1, LeO (code_Check.j0 k y0 y1) (code_Check.j0 (k + 1) y0 y1))
 | 0 => fun _ _ r h => by simp [code_Check.j0] at h
 | k + 1 => by
  have ih0 := code_Check.mono_l k
  · intro y0 y1
    unfold code_Check.j0
    repeat' first
    | (with_reducible exact ih0 _ _)
    | (with_reducible exact any_at_code_Check_1.mono _ _)
    | (with_reducible exact code_deep.mono _ _)
    | (with_reducible exact LeO.refl _)
    | (with_reducible exact LeO.none _)
    | (with_reducible refine LeO.ite ?_ ?_)
    | (with_reducible refine LeO.bind ?_ (fun _ => ?_))
    | exact ih0 _ _
    | exact any_at_code_Check_1.mono _ _
    | exact code_deep.mono _ _
    | exact LeO.none _
    | refine LeO.ite ?_ ?_
    | refine LeO.bind ?_ (fun _ => ?_)
theorem code_Check.mono : ∀ a0 k, LeO (code_Check.f k a0) (code_Check.f (k + 1) a0) := by
 intro a0 k
 have ih0 := code_Check.mono_l k
 unfold code_Check.f
 repeat' first
  | (with_reducible exact ih0 _ _)
  | (with_reducible exact any_at_code_Check_1.mono _ _)
  | (with_reducible exact code_deep.mono _ _)
  | (with_reducible exact LeO.refl _)
  | (with_reducible exact LeO.none _)
  | (with_reducible refine LeO.ite ?_ ?_)
  | (with_reducible refine LeO.bind ?_ (fun _ => ?_))
  | exact ih0 _ _
  | exact any_at_code_Check_1.mono _ _
  | exact code_deep.mono _ _
  | exact LeO.none _
  | refine LeO.ite ?_ ?_
  | refine LeO.bind ?_ (fun _ => ?_)
set_option maxHeartbeats 8000000 in
set_option maxRecDepth 100000 in
theorem code_Check.calls (k : Nat) (A0 : Option Addr) (c0 : Nat) (l0 : List (S53)) (r : Int) (w : World) (hr0 : Kd.C k53 w A0 l0.length l0) (hc0 : l0.length ≤ c0) (h : code_Check.f k l0 = some r) :
 Calls Try.prog 21 #[.slice A0 l0.length c0] w fun e w' => e = .returned (.int .i64 r) ∧ Below w.heap.size w w' := by
 have HR0 := ak hr0
 have HC0 := ak hc0
 clear hr0 hc0
 have HB := ak (Below.refl w.heap.size w)
 have H : (if (l0.length : Int) > 24 then (code_Check.j0 k l0 true) else ((any_at_code_Check_1.f k l0).bind fun t158 => (code_Check.j0 k l0 t158))) = some r := h
 clear h
 have HC2 := ak H
 clear H
 go_enter Try.func21, Try.ntmps21
 go_upto_region 1 with (fail)
 go_cut [10] (fun v10 wc => ∃ (kq : Nat) (x10_1 : Bool), v10 = .bool x10_1 ∧ Aside0 (code_Check.j0 kq l0 x10_1 = some r) ∧ Aside0 (kq ≤ k) ∧ Aside0 (Below w.heap.size w wc))
 case first =>
  have H := HC2.out
  clear HC2
  by_cases c3 : (l0.length : Int) > 24
  · rw [if_pos c3] at H
    have c3b0 : decide (24 < (l0.length : Int)) = true := decide_eq_true c3
    have c3b1 : decide (24 < l0.length) = true := decide_eq_true (by omega)
    clear c3
    (first | rw [c3b0] | (simp only [i64_w, i32_w]; rw [c3b0]) | skip)
    have H' := ak H
    clear H
    go_wp2
    go_meet
    case rel => exact ⟨_, (true), (by first | rfl | (simp; done) | (simp [*]; done)), H', ⟨by first | omega | exact Nat.le_refl _⟩, ⟨bsv_⟩⟩
  rw [if_neg c3] at H
  have c3b0 : decide (24 < (l0.length : Int)) = false := decide_eq_false c3
  have c3b1 : decide (24 < l0.length) = false := decide_eq_false (by omega)
  clear c3
  (first | rw [c3b0] | (simp only [i64_w, i32_w]; rw [c3b0]) | skip)
  obtain ⟨t158, A4, H⟩ := bd_ H
  have H' := ak H
  clear H
  go_wp2_with (first | (go_at_call 34; (with_reducible refine (any_at_code_Check_1.calls k _ _ l0 t158 _ ?side1 ?side2 A4.out).mono ?_); (case side1 => exact cb_ HR0 HB); (case side2 => exact HC0.out); rintro e w5 ⟨rfl, hb⟩; replace HB := ak (bst_ hb); (try clear hb)))
  go_meet
  case rel => exact ⟨_, (t158), (by first | rfl | (simp; done) | (simp [*]; done)), H', ⟨by first | omega | exact Nat.le_refl _⟩, ⟨bsv_⟩⟩
 case rest =>
  clear HC2
  try clear c2
  try clear p2
  try clear c3
  try clear c3b0
  try clear c3b1
  obtain ⟨kq, x10_1, rfl, HA, HJ1, HB⟩ := hcut
  cases kq with
  | zero => exact absurd HA.out (by simp [code_Check.j0])
  | succ kj1 =>
   have H := HA.out
   clear HA
   simp only [code_Check.j0] at H
   by_cases c6 : x10_1 = true
   · subst c6
     rw [if_pos rfl] at H
     obtain rfl := Option.some.inj H
     go_wp2
     go_ret
     exact ⟨by first | rfl | (simp [errW_none, errW_some] <;> rfl) | (simp [*, errW_none, errW_some] <;> rfl), bsv_⟩
   replace c6 := Bool.eq_false_iff.mpr c6
   subst c6
   rw [if_neg (show ¬ (false = true) by decide)] at H
   obtain ⟨t159, A7, H⟩ := bd_ H
   by_cases c8 : t159 < 0
   · rw [if_pos c8] at H
     have c8b0 : decide (t159 < 0) = true := decide_eq_true c8
     clear c8
     obtain rfl := Option.some.inj H
     go_wp2_with (first | ((with_reducible refine gate_callee (f := 37) rfl ?_); refine goesL_ (some 12) rfl rfl Try.func37 (by kernel_rfl) rfl #[.slice A0 l0.length c0] rfl mp_ ?_; (with_reducible refine (code_deep.calls kj1 _ _ l0 t159 _ ?side1 ?side2 A7.out).mono ?_); (case side1 => exact cb_ HR0 HB); (case side2 => exact HC0.out); rintro e w9 ⟨rfl, hb⟩; refine ⟨_, rfl, ?_⟩; replace HB := ak (bst_ hb); (try clear hb)))
     go_ret
     exact ⟨by first | rfl | (simp [errW_none, errW_some] <;> rfl) | (simp [*, errW_none, errW_some] <;> rfl), bsv_⟩
   rw [if_neg c8] at H
   have c8b0 : decide (t159 < 0) = false := decide_eq_false c8
   clear c8
   by_cases c10 : t159 > 6
   rotate_left
   · rw [if_neg c10] at H
     have c10b0 : decide (6 < t159) = false := decide_eq_false c10
     clear c10
     obtain rfl := Option.some.inj H
     go_wp2_with (first | ((with_reducible refine gate_callee (f := 37) rfl ?_); refine goesL_ (some 12) rfl rfl Try.func37 (by kernel_rfl) rfl #[.slice A0 l0.length c0] rfl mp_ ?_; (with_reducible refine (code_deep.calls kj1 _ _ l0 t159 _ ?side1 ?side2 A7.out).mono ?_); (case side1 => exact cb_ HR0 HB); (case side2 => exact HC0.out); rintro e w12 ⟨rfl, hb⟩; refine ⟨_, rfl, ?_⟩; replace HB := ak (bst_ hb); (try clear hb)))
     go_ret
     exact ⟨by first | rfl | (simp [errW_none, errW_some] <;> rfl) | (simp [*, errW_none, errW_some] <;> rfl), bsv_⟩
   rw [if_pos c10] at H
   have c10b0 : decide (6 < t159) = true := decide_eq_true c10
   clear c10
   obtain rfl := Option.some.inj H
   go_wp2_with (first | ((with_reducible refine gate_callee (f := 37) rfl ?_); refine goesL_ (some 12) rfl rfl Try.func37 (by kernel_rfl) rfl #[.slice A0 l0.length c0] rfl mp_ ?_; (with_reducible refine (code_deep.calls kj1 _ _ l0 t159 _ ?side1 ?side2 A7.out).mono ?_); (case side1 => exact cb_ HR0 HB); (case side2 => exact HC0.out); rintro e w11 ⟨rfl, hb⟩; refine ⟨_, rfl, ?_⟩; replace HB := ak (bst_ hb); (try clear hb)))
   go_ret
   exact ⟨by first | rfl | (simp [errW_none, errW_some] <;> rfl) | (simp [*, errW_none, errW_some] <;> rfl), bsv_⟩

end Go.Proofs.Ytpeblomhhofhkaa.H
