-- PRINTED by print.py (a twelfth state) out of the translation. Not trusted: Lean checks it.
import Derived.Test.YtjnkpocfmpbpoaaFx0
import Derived.Test.YtjnkpocfmpbpoaaFx3
namespace Go.Proofs.Ytjnkpocfmpbpoaa.F
open Go.Proofs.Ytjnkpocfmpbpoaa.Ho
open Go.RowKit Go.Proofs.YtjnkpocfmpbpoaaW.PrintWords Go.Proofs.YtjnkpocfmpbpoaaW.PrintLast Go.Proofs.YtjnkpocfmpbpoaaW.PrintMore
attribute [local go_sem] max2_int min2_int max_two min_two max_three min_three max_four min_four   -- for this text's walks alone
set_option linter.unusedVariables false
set_option linter.unusedSimpArgs false

/-! ### term_walk: function 97 -/
def term_walk.l0 : Nat → Int → Int → List (S80) → Int → Int → Option (Int × Int)
 | 0, _, _, _, _, _ => none
 | k + 1, x4, x5, x8, x9, x10 => if x10 < x9 then (if 0 ≤ x10 then (if x10 < (x8.length : Int) then ((term_Op_takes.f k ((rd_T80 x8 x10).f0) ((rd_T80 x8 x10).f1)).bind fun t122 => (if x4 < t122 then (some ((-1), 0)) else ((term_Op_takes.f k ((rd_T80 x8 x10).f0) ((rd_T80 x8 x10).f1)).bind fun t123 => (term_walk.l0 k (wrap64 (x4 + (wrap64 (1 - t123)))) (mx x5 (wrap64 (x4 + (wrap64 (1 - t123))))) x8 x9 (wrap64 (x10 + 1)))))) else (none)) else (none)) else (some (x4, x5))
def term_walk.f (k : Nat) (l0 : List (S80)) : Option (Int × Int) := term_walk.l0 k 0 0 l0 (l0.length : Int) 0
theorem term_walk.mono_l : ∀ k, (∀ y0 y1 y2 y3 y4, LeO (term_walk.l0 k y0 y1 y2 y3 y4) (term_walk.l0 (k + 1) y0 y1 y2 y3 y4))
 | 0 => fun _ _ _ _ _ r h => by simp [term_walk.l0] at h
 | k + 1 => by
  have ih0 := term_walk.mono_l k
  · intro y0 y1 y2 y3 y4
    unfold term_walk.l0
    repeat' first
    | (with_reducible exact ih0 _ _ _ _ _)
    | (with_reducible exact term_Op_takes.mono _ _ _)
    | (with_reducible exact LeO.refl _)
    | (with_reducible exact LeO.none _)
    | (with_reducible refine LeO.ite ?_ ?_)
    | (with_reducible refine LeO.bind ?_ (fun _ => ?_))
    | exact ih0 _ _ _ _ _
    | exact term_Op_takes.mono _ _ _
    | exact LeO.none _
    | refine LeO.ite ?_ ?_
    | refine LeO.bind ?_ (fun _ => ?_)
theorem term_walk.mono : ∀ a0 k, LeO (term_walk.f k a0) (term_walk.f (k + 1) a0) := by
 intro a0 k
 have ih0 := term_walk.mono_l k
 unfold term_walk.f
 repeat' first
  | (with_reducible exact ih0 _ _ _ _ _)
  | (with_reducible exact term_Op_takes.mono _ _ _)
  | (with_reducible exact LeO.refl _)
  | (with_reducible exact LeO.none _)
  | (with_reducible refine LeO.ite ?_ ?_)
  | (with_reducible refine LeO.bind ?_ (fun _ => ?_))
  | exact ih0 _ _ _ _ _
  | exact term_Op_takes.mono _ _ _
  | exact LeO.none _
  | refine LeO.ite ?_ ?_
  | refine LeO.bind ?_ (fun _ => ?_)
set_option maxHeartbeats 8000000 in
set_option maxRecDepth 100000 in
theorem term_walk.calls (k : Nat) (A0 : Option Addr) (c0 : Nat) (l0 : List (S80)) (r1 : Int) (r2 : Int) (w : World) (hr0 : Kd.C k80 w A0 l0.length l0) (hc0 : l0.length ≤ c0) (h : term_walk.f k l0 = some (r1, r2)) :
 Calls Try.prog 97 #[.slice A0 l0.length c0] w fun e w' => e = .returned (.tuple #[.int .i64 r1, .int .i64 r2]) ∧ Below w.heap.size w w' := by
 have hu80 := Try.underlying80
 have HR0 := ak hr0
 have HC0 := ak hc0
 clear hr0 hc0
 have HB := ak (Below.refl w.heap.size w)
 have H : (term_walk.l0 k 0 0 l0 (l0.length : Int) 0) = some (r1, r2) := h
 clear h
 have H' := ak H
 clear H
 go_enter Try.func97, Try.ntmps97
 go_wp2
 go_loopg [4, 5, 10] k (fun kq v4 v5 v10 w' => ∃ (x4_1 : Int) (x5_1 : Int) (x10_1 : Int), v4 = .int .i64 x4_1 ∧ v5 = .int .i64 x5_1 ∧ v10 = .int .i64 x10_1 ∧ Aside0 (term_walk.l0 kq x4_1 x5_1 l0 (l0.length : Int) x10_1 = some (r1, r2)) ∧ Aside0 (kq ≤ k) ∧ Aside0 (Below w.heap.size w w'))
 case atStart => exact ⟨(0), (0), (0), (by first | rfl | (simp; done) | (simp [*]; done)), (by first | rfl | (simp; done) | (simp [*]; done)), (by first | rfl | (simp; done) | (simp [*]; done)), H', ⟨Nat.le_refl _⟩, ⟨bsv_⟩⟩
 case round =>
  clear H'
  obtain ⟨x4_1, x5_1, x10_1, rfl, rfl, rfl, HA, HK1, HB⟩ := hrel
  cases gk with
  | zero => exact absurd HA.out (by simp [term_walk.l0])
  | succ k1 =>
   have H := HA.out
   clear HA
   simp only [term_walk.l0] at H
   by_cases c2 : x10_1 < (l0.length : Int)
   · rw [if_pos c2] at H
     have c2b0 : decide (x10_1 < (l0.length : Int)) = true := decide_eq_true c2
     clear c2
     by_cases c3 : 0 ≤ x10_1
     · rw [if_pos c3] at H
       have c3b0 : decide (0 ≤ x10_1) = true := decide_eq_true c3
       clear c3
       by_cases c4 : x10_1 < (l0.length : Int)
       · rw [if_pos c4] at H
         have c4b0 : decide (x10_1 < (l0.length : Int)) = true := decide_eq_true c4
         clear c4
         obtain ⟨t122, A5, H⟩ := bd_ H
         by_cases c6 : x4_1 < t122
         · rw [if_pos c6] at H
           have c6b0 : decide (x4_1 < t122) = true := decide_eq_true c6
           clear c6
           simp only [Option.some.injEq, Prod.mk.injEq] at H
           obtain ⟨rfl, rfl⟩ := H
           have p120 : 0 ≤ (x10_1 : Int) := oda_
           have q120 : x10_1 < (l0.length : Int) := oda_
           obtain ⟨ad120, e120, hx120_0, hx120_1⟩ := at_T80 HR0.out x10_1 p120 q120
           cases e120
           replace hx120_0 := bl_ HB hx120_0
           replace hx120_1 := bl_ HB hx120_1
           replace p120 := eq_true p120
           replace q120 := eq_true q120
           go_wp2_with (first | ((with_reducible refine gate_dst (N := 7) rfl ?_); refine box_event ?hg (N := 7) ?hd (cs := #[.int .i64 0, .int .i64 0]) (t := 80) ?hr ?_; (case hd => rfl); (case hg => rfl); (case hr => first | (go_simp; done) | (go_simp; rfl)); intro gb121 hg w7 hbox hb; replace BK121 := ak (hbox); replace GW121 := ak ((by rw [hg]; exact bsz_ : w.heap.size ≤ gb121)); replace HB := ak (bst_ hb); replace GE121 := GW121; clear hb hbox hg; obtain ⟨hcz8_0, hcz8_1, hfz8_0, hfz8_1⟩ := bz2_ BK121) | ((with_reducible refine gate_callee (f := 109) rfl ?_); refine goesL_ (some 16) rfl rfl Try.func109 (by kernel_rfl) rfl #[.agg #[.int .i64 ((rd_T80 l0 x10_1).f0), .int .i64 ((rd_T80 l0 x10_1).f1)]] rfl mp_ ?_; (with_reducible refine (term_Op_takes.calls k1 ((rd_T80 l0 x10_1).f0) ((rd_T80 l0 x10_1).f1) t122 _ A5.out).mono ?_); rintro e w9 ⟨rfl, hb⟩; refine ⟨_, rfl, ?_⟩; replace BK121 := ak (blk_below (g := gb121) (o := .cells #[.int .i64 ((rd_T80 l0 x10_1).f0), .int .i64 ((rd_T80 l0 x10_1).f1)] 80 (0, 0)) (by (with_reducible repeat (first | refine blk_drewN ?_ _ | refine blk_drew ?_ | refine blk_alloc ?_ _)); refine blk_put (cs := #[.int .i64 ((rd_T80 l0 x10_1).f0), .int .i64 0]) ?_ 1 _ rfl; (with_reducible repeat (first | refine blk_drewN ?_ _ | refine blk_drew ?_ | refine blk_alloc ?_ _)); refine blk_put (cs := #[.int .i64 0, .int .i64 0]) ?_ 0 _ rfl; (with_reducible repeat (first | refine blk_drewN ?_ _ | refine blk_drew ?_ | refine blk_alloc ?_ _)); exact BK121.out) hb); replace HB := ak (below_step bsw_ hb); (try clear hb); (try clear hb2); (try clear hk); (try clear hi)))
           go_ret2
           exact ⟨by first | rfl | (simp [errW_none, errW_some] <;> rfl) | (simp [*, errW_none, errW_some] <;> rfl), bsw_⟩
         · rw [if_neg c6] at H
           have c6b0 : decide (x4_1 < t122) = false := decide_eq_false c6
           clear c6
           obtain ⟨t123, A10, H⟩ := bd_ H
           obtain ⟨ji11, hji11⟩ : ∃ j_ : Int, (mx x5_1 (wrap64 (x4_1 + (wrap64 (1 - t123))))) = j_ := ⟨_, rfl⟩
           replace H : (term_walk.l0 k1 (wrap64 (x4_1 + (wrap64 (1 - t123)))) ji11 l0 (l0.length : Int) (wrap64 (x10_1 + 1))) = some (r1, r2) := by first | (rw [hji11] at H; exact H) | (simp only [hji11] at H ⊢; exact H)
           (try rw [hji11] at A5)
           (try rw [hji11] at A10)
           have hji11_ : (if x5_1 < (wrap64 (x4_1 + (wrap64 (1 - t123)))) then (wrap64 (x4_1 + (wrap64 (1 - t123)))) else x5_1) = ji11 := hji11
           have H' := ak H
           clear H
           have p120 : 0 ≤ (x10_1 : Int) := oda_
           have q120 : x10_1 < (l0.length : Int) := oda_
           obtain ⟨ad120, e120, hx120_0, hx120_1⟩ := at_T80 HR0.out x10_1 p120 q120
           cases e120
           replace hx120_0 := bl_ HB hx120_0
           replace hx120_1 := bl_ HB hx120_1
           replace p120 := eq_true p120
           replace q120 := eq_true q120
           go_wp2_with (first | ((with_reducible refine gate_dst (N := 7) rfl ?_); refine box_event ?hg (N := 7) ?hd (cs := #[.int .i64 0, .int .i64 0]) (t := 80) ?hr ?_; (case hd => rfl); (case hg => rfl); (case hr => first | (go_simp; done) | (go_simp; rfl)); intro gb121 hg w12 hbox hb; replace BK121 := ak (hbox); replace GW121 := ak ((by rw [hg]; exact bsz_ : w.heap.size ≤ gb121)); replace HB := ak (bst_ hb); replace GE121 := GW121; clear hb hbox hg; obtain ⟨hcz13_0, hcz13_1, hfz13_0, hfz13_1⟩ := bz2_ BK121) | ((with_reducible refine gate_callee (f := 109) rfl ?_); refine goesL_ (some 16) rfl rfl Try.func109 (by kernel_rfl) rfl #[.agg #[.int .i64 ((rd_T80 l0 x10_1).f0), .int .i64 ((rd_T80 l0 x10_1).f1)]] rfl mp_ ?_; (with_reducible refine (term_Op_takes.calls k1 ((rd_T80 l0 x10_1).f0) ((rd_T80 l0 x10_1).f1) t122 _ A5.out).mono ?_); rintro e w14 ⟨rfl, hb⟩; refine ⟨_, rfl, ?_⟩; replace BK121 := ak (blk_below (g := gb121) (o := .cells #[.int .i64 ((rd_T80 l0 x10_1).f0), .int .i64 ((rd_T80 l0 x10_1).f1)] 80 (0, 0)) (by (with_reducible repeat (first | refine blk_drewN ?_ _ | refine blk_drew ?_ | refine blk_alloc ?_ _)); refine blk_put (cs := #[.int .i64 ((rd_T80 l0 x10_1).f0), .int .i64 0]) ?_ 1 _ rfl; (with_reducible repeat (first | refine blk_drewN ?_ _ | refine blk_drew ?_ | refine blk_alloc ?_ _)); refine blk_put (cs := #[.int .i64 0, .int .i64 0]) ?_ 0 _ rfl; (with_reducible repeat (first | refine blk_drewN ?_ _ | refine blk_drew ?_ | refine blk_alloc ?_ _)); exact BK121.out) hb); replace HB := ak (below_step bsw_ hb); (try clear hb); (try clear hb2); (try clear hk); (try clear hi); obtain ⟨hcz15_0, hcz15_1, hfz15_0, hfz15_1⟩ := bz2_ BK121) | ((with_reducible refine gate_callee (f := 109) rfl ?_); refine goesL_ (some 20) rfl rfl Try.func109 (by kernel_rfl) rfl #[.agg #[.int .i64 ((rd_T80 l0 x10_1).f0), .int .i64 ((rd_T80 l0 x10_1).f1)]] rfl mp_ ?_; (with_reducible refine (term_Op_takes.calls k1 ((rd_T80 l0 x10_1).f0) ((rd_T80 l0 x10_1).f1) t123 _ A10.out).mono ?_); rintro e w16 ⟨rfl, hb⟩; refine ⟨_, rfl, ?_⟩; replace BK121 := bb_ BK121 hb; replace HB := ak (below_step bsw_ hb); (try clear hb); (try clear hb2); (try clear hk); (try clear hi)))
           go_roundg k1
           case measure => have := HK1.out; omega
           case rel => exact ⟨(wrap64 (x4_1 + (wrap64 (1 - t123)))), (ji11), (wrap64 (x10_1 + 1)), (by first | rfl | (simp; done) | (simp [*]; done)), (by first | rfl | (simp; done) | (simp only [← hji11] <;> (first | rfl | simp)) | (simp [*]; done)), (by first | rfl | (simp; done) | (simp [*]; done)), H', ⟨by have := HK1.out; omega⟩, ⟨bsw_⟩⟩
       · rw [if_neg c4] at H
         exact absurd H (by simp)
     · rw [if_neg c3] at H
       exact absurd H (by simp)
   · rw [if_neg c2] at H
     have c2b0 : decide (x10_1 < (l0.length : Int)) = false := decide_eq_false c2
     clear c2
     simp only [Option.some.injEq, Prod.mk.injEq] at H
     obtain ⟨rfl, rfl⟩ := H
     go_wp2
     go_ret2
     exact ⟨by first | rfl | (simp [errW_none, errW_some] <;> rfl) | (simp [*, errW_none, errW_some] <;> rfl), bsv_⟩

/-! ### ho94: slices.IndexFunc, function 94, at whatever function value that reads -/
set_option maxHeartbeats 2000000 in
theorem ho94 (p : S80 → Option Bool) (g : Nat) (la lb : Array Value) (eg : ∀ args w, (callFunc g args).run Try.prog w = .ok (.enter g args) w) (A0 : Option Addr) (c0 : Nat) (l0 : List S80) (r : Int) (w : World)
 (hr0 : Kd.C k80 w A0 l0.length l0)
 (hp : ∀ (W : World) (x : S80) (b : Bool), Below w.heap.size w W → p x = some b → Calls Try.prog g (la ++ #[.agg #[.int .i64 x.f0, .int .i64 x.f1]] ++ lb) W fun e W' => e = .returned (.bool b) ∧ Below W.heap.size W W')
 (h : idxF p l0 0 = some r) :
 Calls Try.prog 94 #[.slice A0 l0.length c0, .func (.func g) la lb] w fun e w' => e = .returned (.int .i64 r) ∧ Below w.heap.size w w' := by
 have hmax : l0.length ≤ 9223372036854775807 := Kd.C_max hr0
 have hread : ∀ (W : World), Below w.heap.size w W → ∀ j : Nat, j < l0.length → ∃ ad, A0 = some ad ∧ W.cell? (ad.add (j * 2)) = some (.int .i64 ((rd_T80 l0 j).f0)) ∧ W.cell? ⟨(ad.add (j * 2)).block, (ad.add (j * 2)).off + 1, none⟩ = some (.int .i64 ((rd_T80 l0 j).f1)) := by
  intro W hW j hj
  have := at_T80 (Kd.C_below hr0 hW) (j : Int) (by omega) (by omega)
  simpa only [Int.toNat_natCast] using this
 generalize hn : l0.length = n at *
 have HR := ak hread
 have HP := ak hp
 have HH := ak h
 clear hread hp h hr0
 have HN := ak hn
 clear hn
 go_enter Try.func94, Try.ntmps94
 go_wp2
 go_loopg [5, 8] n (fun gg _ s8 wr => ∃ kk : Nat, kk ≤ n ∧ n - kk ≤ gg ∧ s8 = .int .i64 kk ∧ Aside0 (Below w.heap.size w wr) ∧ Aside0 (idxF p (l0.drop kk) kk = some r))
 case atStart => exact ⟨0, Nat.zero_le _, by omega, rfl, ⟨Below.refl _ w⟩, ⟨HH.out⟩⟩
 case round =>
  obtain ⟨kk, hkk, hg, rfl, BW, HI⟩ := hrel
  by_cases hlt : kk < n
  · have hltz : (kk : Int) < (n : Int) := by omega
    obtain ⟨ad, e0, q0, q1⟩ := HR.out wr BW.out kk hlt
    have hi := HI.out
    rw [idxF_drop p l0 z80 kk (by rw [HN.out]; exact hlt)] at hi
    obtain ⟨b, hb, hi⟩ := Option.bind_eq_some_iff.mp hi
    have hcall := HP.out wr _ b BW.out hb
    (try rw [show l0.getD kk z80 = rd_T80 l0 kk from rfl] at hcall)
    generalize rd_T80 l0 kk = y at q0 q1 hcall
    subst e0
    clear hb HI
    cases b with
    | true =>
     have hi2 : (kk : Int) = r := by simpa using hi
     clear hi
     have HE := ak hi2
     clear hi2
     go_wp2_with (go_at_fn g; refine hcall.mono ?_; rintro e w' ⟨rfl, hb'⟩)
     go_ret
     exact ⟨by first | rfl | (rw [← HE.out]; rfl) | simp [HE.out], BW.out.trans (hb'.mono BW.out.size)⟩
    | false =>
     have hi2 : idxF p (l0.drop (kk + 1)) (kk + 1) = some r := by simpa using hi
     clear hi
     have HE := ak hi2
     clear hi2
     go_wp2_with (go_at_fn g; refine hcall.mono ?_; rintro e w' ⟨rfl, hb'⟩)
     go_roundg (n - (kk + 1))
     case measure => omega
     case rel =>
      exact ⟨kk + 1, by omega, by omega, by go_num, ⟨BW.out.trans (hb'.mono BW.out.size)⟩, ⟨HE.out⟩⟩
  · have hltz : ¬ (kk : Int) < (n : Int) := by omega
    have : kk = n := by omega
    subst this
    have hi := HI.out
    rw [List.drop_of_length_le (by rw [HN.out]; omega)] at hi
    have hi2 : -1 = r := by simpa [idxF] using hi
    clear hi HI
    have HE := ak hi2
    clear hi2
    go_wp2
    go_ret
    exact ⟨by first | rfl | (rw [← HE.out]; rfl) | simp [HE.out], BW.out⟩

/-! ### ho68: slices.ContainsFunc, function 68 -/
set_option maxHeartbeats 2000000 in
theorem ho68 (p : S80 → Option Bool) (g : Nat) (la lb : Array Value) (eg : ∀ args w, (callFunc g args).run Try.prog w = .ok (.enter g args) w) (A0 : Option Addr) (c0 : Nat) (l0 : List S80) (r : Bool) (w : World)
 (hr0 : Kd.C k80 w A0 l0.length l0)
 (hp : ∀ (W : World) (x : S80) (b : Bool), Below w.heap.size w W → p x = some b → Calls Try.prog g (la ++ #[.agg #[.int .i64 x.f0, .int .i64 x.f1]] ++ lb) W fun e W' => e = .returned (.bool b) ∧ Below W.heap.size W W')
 (h : anyF p l0 = some r) :
 Calls Try.prog 68 #[.slice A0 l0.length c0, .func (.func g) la lb] w fun e w' => e = .returned (.bool r) ∧ Below w.heap.size w w' := by
 obtain ⟨i, hi, hd⟩ := any_idx l0 0 r (by decide) h
 have hc := ak (ho94 p g la lb eg A0 c0 l0 i w hr0 hp hi)
 have HD := ak hd
 clear hd hi h hp hr0 eg
 go_enter Try.func68, Try.ntmps68
 go_wp2_with (go_at_call 94; refine hc.out.mono ?_; rintro e w' ⟨rfl, hb⟩)
 go_ret
 exact ⟨by first | rfl | (rw [← HD.out]; rfl) | simp [HD.out], hb⟩

/-! ### any_at_term_Check_1: function 68 at the function value 95 -/
def any_at_term_Check_1.f (k : Nat) (l0 : List (S80)) : Option (Bool) := anyF (fun x => term_Check_1.f k  x.f0 x.f1) l0
theorem any_at_term_Check_1.mono : ∀ a0  k, LeO (any_at_term_Check_1.f k a0 ) (any_at_term_Check_1.f (k + 1) a0 ) := by
 intro a0  k
 unfold any_at_term_Check_1.f
 exact anyF_mono (fun x => term_Check_1.mono  x.f0 x.f1  k) a0
theorem any_at_term_Check_1.calls (k : Nat) (A0 : Option Addr) (c0 : Nat) (l0 : List (S80)) (r : Bool) (w : World) (hr0 : Kd.C k80 w A0 l0.length l0) (hc0 : l0.length ≤ c0) (h : any_at_term_Check_1.f k l0 = some r) :
 Calls Try.prog 68 #[.slice A0 l0.length c0, .func (.func 95) #[] #[]] w fun e w' => e = .returned (.bool r) ∧ Below w.heap.size w w' :=
 ho68 (fun x => term_Check_1.f k  x.f0 x.f1) 95 #[] #[] (enters_of Try.func95 (by kernel_rfl) rfl) A0 c0 l0 r w hr0 (fun W x b hW_ hx => by
  show Calls Try.prog 95 #[.agg #[.int .i64 x.f0, .int .i64 x.f1]] W _
  exact (term_Check_1.calls k  x.f0 x.f1 b W hx).mono (fun e W' ⟨he, hd⟩ => ⟨he, hd⟩)) h

/-! ### term_Check: function 70 -/
def term_Check.j0 : Nat → List (S80) → Bool → Option (Int)
 | 0, _, _ => none
 | k + 1, x0, x16 => if x16 = true then (some 1) else ((term_walk.f k x0).bind fun bt125 => (if bt125.1 = 1 then (some 0) else (some 2)))
def term_Check.f (k : Nat) (l0 : List (S80)) : Option (Int) := if (l0.length : Int) < 1 then (term_Check.j0 k l0 true) else (if (l0.length : Int) > 12 then (term_Check.j0 k l0 true) else ((any_at_term_Check_1.f k l0).bind fun t124 => (term_Check.j0 k l0 t124)))
theorem term_Check.mono_l : ∀ k, (∀ y0 y1, LeO (term_Check.j0 k y0 y1) (term_Check.j0 (k + 1) y0 y1))
 | 0 => fun _ _ r h => by simp [term_Check.j0] at h
 | k + 1 => by
  have ih0 := term_Check.mono_l k
  · intro y0 y1
    unfold term_Check.j0
    repeat' first
    | (with_reducible exact ih0 _ _)
    | (with_reducible exact any_at_term_Check_1.mono _ _)
    | (with_reducible exact term_walk.mono _ _)
    | (with_reducible exact LeO.refl _)
    | (with_reducible exact LeO.none _)
    | (with_reducible refine LeO.ite ?_ ?_)
    | (with_reducible refine LeO.bind ?_ (fun _ => ?_))
    | exact ih0 _ _
    | exact any_at_term_Check_1.mono _ _
    | exact term_walk.mono _ _
    | exact LeO.none _
    | refine LeO.ite ?_ ?_
    | refine LeO.bind ?_ (fun _ => ?_)
theorem term_Check.mono : ∀ a0 k, LeO (term_Check.f k a0) (term_Check.f (k + 1) a0) := by
 intro a0 k
 have ih0 := term_Check.mono_l k
 unfold term_Check.f
 repeat' first
  | (with_reducible exact ih0 _ _)
  | (with_reducible exact any_at_term_Check_1.mono _ _)
  | (with_reducible exact term_walk.mono _ _)
  | (with_reducible exact LeO.refl _)
  | (with_reducible exact LeO.none _)
  | (with_reducible refine LeO.ite ?_ ?_)
  | (with_reducible refine LeO.bind ?_ (fun _ => ?_))
  | exact ih0 _ _
  | exact any_at_term_Check_1.mono _ _
  | exact term_walk.mono _ _
  | exact LeO.none _
  | refine LeO.ite ?_ ?_
  | refine LeO.bind ?_ (fun _ => ?_)
set_option maxHeartbeats 8000000 in
set_option maxRecDepth 100000 in
theorem term_Check.calls (k : Nat) (A0 : Option Addr) (c0 : Nat) (l0 : List (S80)) (r : Int) (w : World) (hr0 : Kd.C k80 w A0 l0.length l0) (hc0 : l0.length ≤ c0) (h : term_Check.f k l0 = some r) :
 Calls Try.prog 70 #[.slice A0 l0.length c0] w fun e w' => e = .returned (.int .i64 r) ∧ Below w.heap.size w w' := by
 have HR0 := ak hr0
 have HC0 := ak hc0
 clear hr0 hc0
 have HB := ak (Below.refl w.heap.size w)
 have H : (if (l0.length : Int) < 1 then (term_Check.j0 k l0 true) else (if (l0.length : Int) > 12 then (term_Check.j0 k l0 true) else ((any_at_term_Check_1.f k l0).bind fun t124 => (term_Check.j0 k l0 t124)))) = some r := h
 clear h
 have HC2 := ak H
 clear H
 go_enter Try.func70, Try.ntmps70
 go_upto_region 1 with (fail)
 go_cut [16] (fun v16 wc => ∃ (kq : Nat) (x16_1 : Bool), v16 = .bool x16_1 ∧ Aside0 (term_Check.j0 kq l0 x16_1 = some r) ∧ Aside0 (kq ≤ k) ∧ Aside0 (Below w.heap.size w wc))
 case first =>
  have H := HC2.out
  clear HC2
  by_cases c3 : (l0.length : Int) < 1
  · rw [if_pos c3] at H
    have c3b0 : decide ((l0.length : Int) < 1) = true := decide_eq_true c3
    have c3b1 : decide (l0.length < 1) = true := decide_eq_true (by omega)
    clear c3
    (first | rw [c3b0] | (simp only [i64_w, i32_w]; rw [c3b0]) | skip)
    have H' := ak H
    clear H
    go_wp2
    go_meet
    case rel => exact ⟨_, (true), (by first | rfl | (simp; done) | (simp [*]; done)), H', ⟨by first | omega | exact Nat.le_refl _⟩, ⟨bsv_⟩⟩
  · rw [if_neg c3] at H
    have c3b0 : decide ((l0.length : Int) < 1) = false := decide_eq_false c3
    have c3b1 : decide (l0.length < 1) = false := decide_eq_false (by omega)
    clear c3
    (first | rw [c3b0] | (simp only [i64_w, i32_w]; rw [c3b0]) | skip)
    by_cases c4 : (l0.length : Int) > 12
    · rw [if_pos c4] at H
      have c4b0 : decide (12 < (l0.length : Int)) = true := decide_eq_true c4
      have c4b1 : decide (12 < l0.length) = true := decide_eq_true (by omega)
      clear c4
      have H' := ak H
      clear H
      go_wp2
      go_meet
      case rel => exact ⟨_, (true), (by first | rfl | (simp; done) | (simp [*]; done)), H', ⟨by first | omega | exact Nat.le_refl _⟩, ⟨bsv_⟩⟩
    · rw [if_neg c4] at H
      have c4b0 : decide (12 < (l0.length : Int)) = false := decide_eq_false c4
      have c4b1 : decide (12 < l0.length) = false := decide_eq_false (by omega)
      clear c4
      obtain ⟨t124, A5, H⟩ := bd_ H
      have H' := ak H
      clear H
      go_wp2_with (first | (go_at_call 68; (with_reducible refine (any_at_term_Check_1.calls k _ _ l0 t124 _ ?side1 ?side2 A5.out).mono ?_); (case side1 => repeat (first | exact (Kd.C_below HR0.out HB.out) | with_reducible first | refine Kd.C_alloc ?_ _ | refine Kd.C_drewN ?_ _ | refine Kd.C_drew ?_)); (case side2 => exact HC0.out); rintro e w6 ⟨rfl, hb⟩; replace HB := ak (bst_ hb); (try clear hb); (try clear hb2); (try clear hk); (try clear hi)))
      go_meet
      case rel => exact ⟨_, (t124), (by first | rfl | (simp; done) | (simp [*]; done)), H', ⟨by first | omega | exact Nat.le_refl _⟩, ⟨bsv_⟩⟩
 case rest =>
  clear HC2
  try clear p2
  try clear c3
  try clear c3b0
  try clear c3b1
  try clear c4
  try clear c4b0
  try clear c4b1
  obtain ⟨kq, x16_1, rfl, HA, HJ1, HB⟩ := hcut
  cases kq with
  | zero => exact absurd HA.out (by simp [term_Check.j0])
  | succ kj1 =>
   have H := HA.out
   clear HA
   simp only [term_Check.j0] at H
   by_cases c7 : x16_1 = true
   · subst c7
     rw [if_pos rfl] at H
     obtain rfl := Option.some.inj H
     go_wp2
     go_ret
     exact ⟨by first | rfl | (simp [errW_none, errW_some] <;> rfl) | (simp [*, errW_none, errW_some] <;> rfl), bsv_⟩
   · replace c7 := Bool.eq_false_iff.mpr c7
     subst c7
     rw [if_neg (show ¬ (false = true) by decide)] at H
     replace H := Option.bind_eq_some_iff.mp H
     obtain ⟨⟨t125, t126⟩, A80, H⟩ := H
     have A8 := ak A80
     clear A80
     by_cases c9 : t125 = 1
     · rw [if_pos c9] at H
       have c9b0 : (t125 == 1) = true := beq_iff_eq.mpr c9
       have c9b1 : (t125 != 1) = false := bne_eq_false_iff_eq.mpr c9
       clear c9
       obtain rfl := Option.some.inj H
       go_wp2_with (first | ((with_reducible refine gate_callee (f := 97) rfl ?_); refine goesL_ (some 19) rfl rfl Try.func97 (by kernel_rfl) rfl #[.slice A0 l0.length c0] rfl mp_ ?_; (with_reducible refine (term_walk.calls kj1 _ _ l0 t125 t126 _ ?side1 ?side2 A8.out).mono ?_); (case side1 => repeat (first | exact (Kd.C_below HR0.out HB.out) | with_reducible first | refine Kd.C_alloc ?_ _ | refine Kd.C_drewN ?_ _ | refine Kd.C_drew ?_)); (case side2 => exact HC0.out); rintro e w10 ⟨rfl, hb⟩; refine ⟨_, rfl, ?_⟩; replace HB := ak (bst_ hb); (try clear hb); (try clear hb2); (try clear hk); (try clear hi)))
       go_ret
       exact ⟨by first | rfl | (simp [errW_none, errW_some] <;> rfl) | (simp [*, errW_none, errW_some] <;> rfl), bsv_⟩
     · rw [if_neg c9] at H
       have c9b0 : (t125 == 1) = false := beq_eq_false_iff_ne.mpr c9
       have c9b1 : (t125 != 1) = true := bne_iff_ne.mpr c9
       obtain rfl := Option.some.inj H
       go_wp2_with (first | ((with_reducible refine gate_callee (f := 97) rfl ?_); refine goesL_ (some 19) rfl rfl Try.func97 (by kernel_rfl) rfl #[.slice A0 l0.length c0] rfl mp_ ?_; (with_reducible refine (term_walk.calls kj1 _ _ l0 t125 t126 _ ?side1 ?side2 A8.out).mono ?_); (case side1 => repeat (first | exact (Kd.C_below HR0.out HB.out) | with_reducible first | refine Kd.C_alloc ?_ _ | refine Kd.C_drewN ?_ _ | refine Kd.C_drew ?_)); (case side2 => exact HC0.out); rintro e w11 ⟨rfl, hb⟩; refine ⟨_, rfl, ?_⟩; replace HB := ak (bst_ hb); (try clear hb); (try clear hb2); (try clear hk); (try clear hi)))
       go_ret
       exact ⟨by first | rfl | (simp [errW_none, errW_some] <;> rfl) | (simp [*, errW_none, errW_some] <;> rfl), bsv_⟩

/-! ### slices_Equal: function 71 -/
def slices_Equal.l0 : Nat → List Int → List Int → Int → Int → Option (Bool)
 | 0, _, _, _, _ => none
 | k + 1, x0, x1, x12, x13 => if x13 < x12 then (if 0 ≤ x13 then (if x13 < (x0.length : Int) then (if x13 < (x1.length : Int) then (if (rd x0 x13) = (rd x1 x13) then (slices_Equal.l0 k x0 x1 x12 (wrap64 (x13 + 1))) else (some false)) else (none)) else (none)) else (none)) else (some true)
def slices_Equal.f (k : Nat) (l0 : List Int) (l1 : List Int) : Option (Bool) := if (l0.length : Int) = (l1.length : Int) then (slices_Equal.l0 k l0 l1 (l0.length : Int) 0) else (some false)
theorem slices_Equal.mono_l : ∀ k, (∀ y0 y1 y2 y3, LeO (slices_Equal.l0 k y0 y1 y2 y3) (slices_Equal.l0 (k + 1) y0 y1 y2 y3))
 | 0 => fun _ _ _ _ r h => by simp [slices_Equal.l0] at h
 | k + 1 => by
  have ih0 := slices_Equal.mono_l k
  · intro y0 y1 y2 y3
    unfold slices_Equal.l0
    repeat' first
    | (with_reducible exact ih0 _ _ _ _)
    | (with_reducible exact LeO.refl _)
    | (with_reducible exact LeO.none _)
    | (with_reducible refine LeO.ite ?_ ?_)
    | (with_reducible refine LeO.bind ?_ (fun _ => ?_))
    | exact ih0 _ _ _ _
    | exact LeO.none _
    | refine LeO.ite ?_ ?_
    | refine LeO.bind ?_ (fun _ => ?_)
theorem slices_Equal.mono : ∀ a0 a1 k, LeO (slices_Equal.f k a0 a1) (slices_Equal.f (k + 1) a0 a1) := by
 intro a0 a1 k
 have ih0 := slices_Equal.mono_l k
 unfold slices_Equal.f
 repeat' first
  | (with_reducible exact ih0 _ _ _ _)
  | (with_reducible exact LeO.refl _)
  | (with_reducible exact LeO.none _)
  | (with_reducible refine LeO.ite ?_ ?_)
  | (with_reducible refine LeO.bind ?_ (fun _ => ?_))
  | exact ih0 _ _ _ _
  | exact LeO.none _
  | refine LeO.ite ?_ ?_
  | refine LeO.bind ?_ (fun _ => ?_)
set_option maxHeartbeats 8000000 in
set_option maxRecDepth 100000 in
theorem slices_Equal.calls (k : Nat) (A0 : Option Addr) (c0 : Nat) (l0 : List Int) (A1 : Option Addr) (c1 : Nat) (l1 : List Int) (r : Bool) (w : World) (hr0 : Kd.C (Kd.int .i64) w A0 l0.length l0) (hc0 : l0.length ≤ c0) (hr1 : Kd.C (Kd.int .i64) w A1 l1.length l1) (hc1 : l1.length ≤ c1) (h : slices_Equal.f k l0 l1 = some r) :
 Calls Try.prog 71 #[.slice A0 l0.length c0, .slice A1 l1.length c1] w fun e w' => e = .returned (.bool r) ∧ Drawn0 w w' := by
 have HR0 := ak hr0
 have HC0 := ak hc0
 clear hr0 hc0
 have HR1 := ak hr1
 have HC1 := ak hc1
 clear hr1 hc1
 have H : (if (l0.length : Int) = (l1.length : Int) then (slices_Equal.l0 k l0 l1 (l0.length : Int) 0) else (some false)) = some r := h
 clear h
 by_cases c3 : (l0.length : Int) = (l1.length : Int)
 · rw [if_pos c3] at H
   have c3b0 : ((l0.length : Int) == (l1.length : Int)) = true := beq_iff_eq.mpr c3
   have c3b1 : ((l0.length : Int) != (l1.length : Int)) = false := bne_eq_false_iff_eq.mpr c3
   have c3b2 : (l0.length == l1.length) = true := by first | simpa using c3 | (simp at c3 ⊢; omega)
   clear c3
   have H' := ak H
   clear H
   go_enter Try.func71, Try.ntmps71
   go_wp2
   repeat (go_quiet (fail); try go_wp2)
   go_loopg [13] k (fun kq v13 w' => ∃ (x13_1 : Int), v13 = .int .i64 x13_1 ∧ Aside0 (slices_Equal.l0 kq l0 l1 (l0.length : Int) x13_1 = some r) ∧ Aside0 (kq ≤ k) ∧ Drawn0 w w')
   case atStart => exact ⟨(0), (by first | rfl | (simp; done) | (simp [*]; done)), H', ⟨Nat.le_refl _⟩, by repeat (first | exact Drawn0.refl _ | apply Drawn0.step)⟩
   case round =>
    clear H'
    try clear c1
    try clear p2
    try clear c3
    try clear c3b0
    try clear c3b1
    try clear c3b2
    obtain ⟨x13_1, rfl, HA, HK1, ⟨m1, rfl⟩⟩ := hrel
    cases gk with
    | zero => exact absurd HA.out (by simp [slices_Equal.l0])
    | succ k1 =>
     have H := HA.out
     clear HA
     simp only [slices_Equal.l0] at H
     by_cases c4 : x13_1 < (l0.length : Int)
     · rw [if_pos c4] at H
       have c4b0 : decide (x13_1 < (l0.length : Int)) = true := decide_eq_true c4
       clear c4
       by_cases c5 : 0 ≤ x13_1
       · rw [if_pos c5] at H
         have c5b0 : decide (0 ≤ x13_1) = true := decide_eq_true c5
         clear c5
         by_cases c6 : x13_1 < (l0.length : Int)
         · rw [if_pos c6] at H
           have c6b0 : decide (x13_1 < (l0.length : Int)) = true := decide_eq_true c6
           clear c6
           by_cases c7 : x13_1 < (l1.length : Int)
           · rw [if_pos c7] at H
             have c7b0 : decide (x13_1 < (l1.length : Int)) = true := decide_eq_true c7
             clear c7
             by_cases c8 : (rd l0 x13_1) = (rd l1 x13_1)
             · rw [if_pos c8] at H
               have c8b0 : ((rd l0 x13_1) == (rd l1 x13_1)) = true := beq_iff_eq.mpr c8
               have c8b1 : ((rd l0 x13_1) != (rd l1 x13_1)) = false := bne_eq_false_iff_eq.mpr c8
               clear c8
               have H' := ak H
               clear H
               have p127 : 0 ≤ (x13_1 : Int) := oda_
               have q127 : x13_1 < (l0.length : Int) := oda_
               obtain ⟨ad127, e127, hx127_0⟩ := Kd.at_int HR0.out x13_1 p127 q127
               cases e127
               replace p127 := eq_true p127
               replace q127 := eq_true q127
               have p128 : 0 ≤ (x13_1 : Int) := oda_
               have q128 : x13_1 < (l1.length : Int) := oda_
               obtain ⟨ad128, e128, hx128_0⟩ := Kd.at_int HR1.out x13_1 p128 q128
               cases e128
               replace p128 := eq_true p128
               replace q128 := eq_true q128
               go_wp2
               repeat (go_quiet (fail); try go_wp2)
               go_roundg k1
               case measure => have := HK1.out; omega
               case rel => exact ⟨(wrap64 (x13_1 + 1)), (by first | rfl | (simp; done) | (simp [*]; done)), H', ⟨by have := HK1.out; omega⟩, by repeat (first | exact Drawn0.refl _ | apply Drawn0.step)⟩
             · rw [if_neg c8] at H
               have c8b0 : ((rd l0 x13_1) == (rd l1 x13_1)) = false := beq_eq_false_iff_ne.mpr c8
               have c8b1 : ((rd l0 x13_1) != (rd l1 x13_1)) = true := bne_iff_ne.mpr c8
               obtain rfl := Option.some.inj H
               have p127 : 0 ≤ (x13_1 : Int) := oda_
               have q127 : x13_1 < (l0.length : Int) := oda_
               obtain ⟨ad127, e127, hx127_0⟩ := Kd.at_int HR0.out x13_1 p127 q127
               cases e127
               replace p127 := eq_true p127
               replace q127 := eq_true q127
               have p128 : 0 ≤ (x13_1 : Int) := oda_
               have q128 : x13_1 < (l1.length : Int) := oda_
               obtain ⟨ad128, e128, hx128_0⟩ := Kd.at_int HR1.out x13_1 p128 q128
               cases e128
               replace p128 := eq_true p128
               replace q128 := eq_true q128
               go_wp2
               repeat (go_quiet (fail); try go_wp2)
               go_ret
               exact ⟨by first | rfl | (simp; done) | (simp [*]; done), by repeat (first | exact Drawn0.refl _ | apply Drawn0.step)⟩
           · rw [if_neg c7] at H
             exact absurd H (by simp)
         · rw [if_neg c6] at H
           exact absurd H (by simp)
       · rw [if_neg c5] at H
         exact absurd H (by simp)
     · rw [if_neg c4] at H
       have c4b0 : decide (x13_1 < (l0.length : Int)) = false := decide_eq_false c4
       clear c4
       obtain rfl := Option.some.inj H
       go_wp2
       repeat (go_quiet (fail); try go_wp2)
       go_ret
       exact ⟨by first | rfl | (simp; done) | (simp [*]; done), by repeat (first | exact Drawn0.refl _ | apply Drawn0.step)⟩
 · rw [if_neg c3] at H
   have c3b0 : ((l0.length : Int) == (l1.length : Int)) = false := beq_eq_false_iff_ne.mpr c3
   have c3b1 : ((l0.length : Int) != (l1.length : Int)) = true := bne_iff_ne.mpr c3
   have c3b2 : (l0.length == l1.length) = false := by first | simpa using c3 | (simp at c3 ⊢; omega)
   obtain rfl := Option.some.inj H
   go_enter Try.func71, Try.ntmps71
   go_wp2
   repeat (go_quiet (fail); try go_wp2)
   go_ret
   exact ⟨by first | rfl | (simp; done) | (simp [*]; done), by repeat (first | exact Drawn0.refl _ | apply Drawn0.step)⟩

/-! ### slices_Sort: function 84: the library's, by its contract -/
def slices_Sort.f (l0 : List Int) : Option (List Int) := if l0.length < 4611686018427387904 then some (l0.mergeSort fun x y => decide (x ≤ y)) else none
set_option maxHeartbeats 2000000 in
theorem slices_Sort.calls (P0_ : Nat → Prop) (u9000_ : Value) (l0 : List Int) (r : List Int) (w0 w : World) (hB : Below w0.heap.size w0 w) (ho0 : Kd.R (Kd.int .i64) 3 w w0.heap.size P0_ u9000_ l0) (h : slices_Sort.f l0 = some r) :
 Calls Try.prog 84 #[u9000_] w fun e w' => e = .returned (.tuple #[]) ∧ Kd.R (Kd.int .i64) 3 w' w0.heap.size (fun k_ => (P0_ k_ ∨ w.heap.size ≤ k_)) u9000_ r ∧ Below w0.heap.size w0 w' ∧ Kept w w' (fun k_ => P0_ k_) := by
 unfold slices_Sort.f at h
 split at h
 case isFalse => exact absurd h (by simp)
 rename_i hlen
 obtain rfl := Option.some.inj h
 rcases Nat.eq_zero_or_pos l0.length with h0 | h0
 · obtain rfl : l0 = [] := List.length_eq_zero_iff.1 h0
   obtain ⟨_, ho⟩ := Kd.R_own ho0
   obtain ⟨A, c, rfl⟩ := own_slice ho
   refine (Try.slices_Sort_int_none A c w).mono ?_
   rintro e w' ⟨rfl, rfl⟩
   exact ⟨rfl, Kd.R_mono (by simpa using ho0) (fun k hk => .inl hk), hB, Kept.refl _ _⟩
 · obtain ⟨g, cap, rfl, hbg, hgl, _⟩ := Kd.R_form ho0 h0
   refine (Try.slices_Sort_int g 0 cap l0 w (So.holds_of ho0) hgl hlen).mono ?_
   rintro e w' ⟨rfl, n, os, rfl⟩
   have hl : (l0.mergeSort fun x y => decide (x ≤ y)).length = l0.length := List.length_mergeSort _
   have hr := So.put_row ho0 n _ (l0.mergeSort fun x y => decide (x ≤ y)) os hl (by rw [List.take_length]) h0
   rw [hl] at hr
   exact ⟨rfl, Kd.R_mono hr (fun k hk => .inl hk), So.put_below hB n g _ os hgl hbg, So.put_kept n g _ os hgl (ho0.1 g rfl)⟩

/-! ### slices_Compact: function 98: the library's, by its contract -/
def slices_Compact.f (l0 : List Int) : Option (List Int) := if l0.length ≤ 9223372036854775807 then some (Go.Lib.compact l0) else none
set_option maxHeartbeats 2000000 in
theorem slices_Compact.calls (P0_ : Nat → Prop) (u9000_ : Value) (l0 : List Int) (r : List Int) (w0 w : World) (hB : Below w0.heap.size w0 w) (ho0 : Kd.R (Kd.int .i64) 3 w w0.heap.size P0_ u9000_ l0) (h : slices_Compact.f l0 = some r) :
 Calls Try.prog 98 #[u9000_] w fun e w' => ∃ v0_ : Value, e = .returned (v0_) ∧ Kd.R (Kd.int .i64) 3 w' w0.heap.size (fun k_ => (P0_ k_ ∨ w.heap.size ≤ k_)) v0_ r ∧ Below w0.heap.size w0 w' ∧ Kept w w' (fun k_ => P0_ k_) := by
 unfold slices_Compact.f at h
 split at h
 case isFalse => exact absurd h (by simp)
 rename_i hlen
 obtain rfl := Option.some.inj h
 rcases Nat.eq_zero_or_pos l0.length with h0 | h0
 · obtain rfl : l0 = [] := List.length_eq_zero_iff.1 h0
   obtain ⟨_, ho⟩ := Kd.R_own ho0
   obtain ⟨A, c, rfl⟩ := own_slice ho
   refine (Try.slices_Compact_int_empty A c w).mono ?_
   rintro e w' ⟨rfl, rfl⟩
   exact ⟨_, rfl, Kd.R_mono (by simpa [Go.Lib.compact, Go.Lib.compactUpTo] using ho0) (fun k hk => .inl hk), hB, Kept.refl _ _⟩
 · obtain ⟨g, cap, rfl, hbg, hgl, _⟩ := Kd.R_form ho0 h0
   have hcap : l0.length ≤ cap := by
    rcases (Kd.own_of_R (enc := Value.int .i64) (h1 := fun _ => rfl) ho0).2 with ⟨e1, _⟩ | ⟨g', cap', cur, e1, _, _, hn, _⟩
    · cases e1
    · injection e1 with e1 e2 e3
      omega
   refine (Try.slices_Compact_int g 0 cap l0 w (So.holds_of ho0) hlen hcap).mono ?_
   rintro e w' ⟨rfl, q, rfl⟩
   have hcl : (Go.Lib.compact l0).length ≤ l0.length := So.compact_len l0
   rw [← Go.Sort.grow_empty (Go.Sort.putRow _ _ _ _ _)]
   have hr := So.put_row ho0 q (Go.Lib.compact l0 ++ List.replicate (l0.length - (Go.Lib.compact l0).length) 0) (Go.Lib.compact l0) #[] (by rw [List.length_append, List.length_replicate]; omega) (by rw [List.take_left']; rfl) h0
   exact ⟨_, rfl, Kd.R_mono hr (fun k hk => .inl hk), So.put_below hB q g _ #[] hgl hbg, So.put_kept q g _ #[] hgl (ho0.1 g rfl)⟩

/-! ### term_Cells: function 72 -/
def term_Cells.l0 : Nat → List Int → List (S80) → Int → Int → Option (List Int)
 | 0, _, _, _, _ => none
 | k + 1, x3, x9, x10, x11 => if x11 < x10 then (if 0 ≤ x11 then (if x11 < (x9.length : Int) then (if ((rd_T80 x9 x11).f0) = 2 then (if x3.length < 17592186044416 then (term_Cells.l0 k (x3 ++ [(rd_T80 x9 x11).f1]) x9 x10 (wrap64 (x11 + 1))) else (none)) else (term_Cells.l0 k x3 x9 x10 (wrap64 (x11 + 1)))) else (none)) else (none)) else ((slices_Sort.f x3).bind fun t135 => ((slices_Compact.f t135).bind fun t136 => (some t136)))
def term_Cells.f (k : Nat) (l0 : List (S80)) : Option (List Int) := (term_Check.f k l0).bind fun t129 => (if t129 = 0 then (term_Cells.l0 k ([] : List Int) l0 (l0.length : Int) 0) else (some ([] : List Int)))
theorem term_Cells.mono_l : ∀ k, (∀ y0 y1 y2 y3, LeO (term_Cells.l0 k y0 y1 y2 y3) (term_Cells.l0 (k + 1) y0 y1 y2 y3))
 | 0 => fun _ _ _ _ r h => by simp [term_Cells.l0] at h
 | k + 1 => by
  have ih0 := term_Cells.mono_l k
  · intro y0 y1 y2 y3
    unfold term_Cells.l0
    repeat' first
    | (with_reducible exact ih0 _ _ _ _)
    | (with_reducible exact term_Check.mono _ _)
    | (with_reducible exact LeO.refl _)
    | (with_reducible exact LeO.none _)
    | (with_reducible refine LeO.ite ?_ ?_)
    | (with_reducible refine LeO.bind ?_ (fun _ => ?_))
    | exact ih0 _ _ _ _
    | exact term_Check.mono _ _
    | exact LeO.none _
    | refine LeO.ite ?_ ?_
    | refine LeO.bind ?_ (fun _ => ?_)
theorem term_Cells.mono : ∀ a0 k, LeO (term_Cells.f k a0) (term_Cells.f (k + 1) a0) := by
 intro a0 k
 have ih0 := term_Cells.mono_l k
 unfold term_Cells.f
 repeat' first
  | (with_reducible exact ih0 _ _ _ _)
  | (with_reducible exact term_Check.mono _ _)
  | (with_reducible exact LeO.refl _)
  | (with_reducible exact LeO.none _)
  | (with_reducible refine LeO.ite ?_ ?_)
  | (with_reducible refine LeO.bind ?_ (fun _ => ?_))
  | exact ih0 _ _ _ _
  | exact term_Check.mono _ _
  | exact LeO.none _
  | refine LeO.ite ?_ ?_
  | refine LeO.bind ?_ (fun _ => ?_)
set_option maxHeartbeats 8000000 in
set_option maxRecDepth 100000 in
theorem term_Cells.calls (k : Nat) (A0 : Option Addr) (c0 : Nat) (l0 : List (S80)) (r : List Int) (w : World) (hr0 : Kd.C k80 w A0 l0.length l0) (hc0 : l0.length ≤ c0) (h : term_Cells.f k l0 = some r) :
 Calls Try.prog 72 #[.slice A0 l0.length c0] w fun e w' => ∃ v0_ : Value, e = .returned (v0_) ∧ Kd.R (Kd.int .i64) 3 w' w.heap.size (fun _ => True) v0_ r ∧ Below w.heap.size w w' := by
 have hu80 := Try.underlying80
 have HR0 := ak hr0
 have HC0 := ak hc0
 clear hr0 hc0
 have HB := ak (Below.refl w.heap.size w)
 have H : ((term_Check.f k l0).bind fun t129 => (if t129 = 0 then (term_Cells.l0 k ([] : List Int) l0 (l0.length : Int) 0) else (some ([] : List Int)))) = some r := h
 clear h
 obtain ⟨t129, A2, H⟩ := bd_ H
 by_cases c3 : t129 = 0
 · rw [if_pos c3] at H
   have c3b0 : (t129 == 0) = true := beq_iff_eq.mpr c3
   have c3b1 : (t129 != 0) = false := bne_eq_false_iff_eq.mpr c3
   clear c3
   have H' := ak H
   clear H
   go_enter Try.func72, Try.ntmps72
   go_wp2_with (first | ((with_reducible refine gate_callee (f := 70) rfl ?_); refine goesL_ (some 7) rfl rfl Try.func70 (by kernel_rfl) rfl #[.slice A0 l0.length c0] rfl mp_ ?_; (with_reducible refine (term_Check.calls k _ _ l0 t129 _ ?side1 ?side2 A2.out).mono ?_); (case side1 => repeat (first | exact HR0.out | with_reducible first | refine Kd.C_alloc ?_ _ | refine Kd.C_drewN ?_ _ | refine Kd.C_drew ?_)); (case side2 => exact HC0.out); rintro e w4 ⟨rfl, hb⟩; refine ⟨_, rfl, ?_⟩; replace HB := ak (bst_ hb); (try clear hb); (try clear hb2); (try clear hk); (try clear hi)))
   go_loopg [3, 11] k (fun kq v3 v11 w' => ∃ (x3_1 : List Int) (x11_1 : Int), v11 = .int .i64 x11_1 ∧ Aside0 (term_Cells.l0 kq x3_1 l0 (l0.length : Int) x11_1 = some r) ∧ Aside0 (kq ≤ k) ∧ Aside0 (Kd.R (Kd.int .i64) 3 w' w.heap.size (fun _ => True) v3 x3_1) ∧ Aside0 (Below w.heap.size w w'))
   case atStart => exact ⟨(([] : List Int)), (0), (by first | rfl | (simp; done) | (simp [*]; done)), H', ⟨Nat.le_refl _⟩, ⟨by first | exact Kd.R_nil _ _ _ _ _ | exact Kd.N_nil _ _ _ _ _ | exact Kd.V_nil _ _ _ _ _ | exact Kd.Q_nil _ _ _ _ _ | exact Kd.S_nil _ _ _ _ _⟩, ⟨bsv_⟩⟩
   case round =>
    clear H'
    try clear p2
    try clear c3
    try clear c3b0
    try clear c3b1
    obtain ⟨x3_1, x11_1, rfl, HA, HK1, HO_3, HB⟩ := hrel
    cases gk with
    | zero => exact absurd HA.out (by simp [term_Cells.l0])
    | succ k1 =>
     have H := HA.out
     clear HA
     simp only [term_Cells.l0] at H
     by_cases c5 : x11_1 < (l0.length : Int)
     · rw [if_pos c5] at H
       have c5b0 : decide (x11_1 < (l0.length : Int)) = true := decide_eq_true c5
       clear c5
       by_cases c6 : 0 ≤ x11_1
       · rw [if_pos c6] at H
         have c6b0 : decide (0 ≤ x11_1) = true := decide_eq_true c6
         clear c6
         by_cases c7 : x11_1 < (l0.length : Int)
         · rw [if_pos c7] at H
           have c7b0 : decide (x11_1 < (l0.length : Int)) = true := decide_eq_true c7
           clear c7
           by_cases c8 : ((rd_T80 l0 x11_1).f0) = 2
           · rw [if_pos c8] at H
             have c8b0 : (((rd_T80 l0 x11_1).f0) == 2) = true := beq_iff_eq.mpr c8
             have c8b1 : (((rd_T80 l0 x11_1).f0) != 2) = false := bne_eq_false_iff_eq.mpr c8
             clear c8
             by_cases c9 : x3_1.length < 17592186044416
             · rw [if_pos c9] at H
               have LMc9 := ak c9
               clear c9
               obtain ⟨y132, hy132⟩ : ∃ y_ : List Int, y_ = (x3_1 ++ [(rd_T80 l0 x11_1).f1]) := ⟨_, rfl⟩
               replace H : (term_Cells.l0 k1 y132 l0 (l0.length : Int) (wrap64 (x11_1 + 1))) = some r := by first | (rw [hy132]; with_reducible exact H) | (have H2_ := (Option.bind_some _ _).symm.trans H; rw [hy132]; with_reducible exact H2_) | (have H2_ := (Option.bind_some _ _).symm.trans H; with_reducible exact H2_) | with_reducible exact H | (rw [hy132]; exact H) | exact H
               have Ny132 := ak hy132
               clear hy132
               have H' := ak H
               clear H
               have p130 : 0 ≤ (x11_1 : Int) := oda_
               have q130 : x11_1 < (l0.length : Int) := oda_
               obtain ⟨ad130, e130, hx130_0, hx130_1⟩ := at_T80 HR0.out x11_1 p130 q130
               cases e130
               replace hx130_0 := bl_ HB hx130_0
               replace hx130_1 := bl_ HB hx130_1
               replace p130 := eq_true p130
               replace q130 := eq_true q130
               go_wp2_with (first | ((with_reducible refine gate_dst (N := 5) rfl ?_); refine box_event ?hg (N := 5) ?hd (cs := #[.int .i64 0, .int .i64 0]) (t := 80) ?hr ?_; (case hd => rfl); (case hg => rfl); (case hr => first | (go_simp; done) | (go_simp; rfl)); intro gb131 hg w10 hbox hb; replace HO_3 := rb_ HO_3 hb; replace BK131 := ak (hbox); replace GW131 := ak ((by rw [hg]; exact bsz_ : w.heap.size ≤ gb131)); replace HB := ak (bst_ hb); replace GE131 := GW131; clear hb hbox hg; obtain ⟨hcz11_0, hcz11_1, hfz11_0, hfz11_1⟩ := bz2_ BK131) | ((with_reducible refine gate_builtin (b := .append) (xs := #[.tmp 18, .tmp 21]) rfl ?_); at_builtin; refine Kd.R_append (Kd.int .i64) (w0 := w) w.heap.size rfl (.tmp 18) (.tmp 21) 27 3 (.int .i64 0) 8 rfl Try.underlying27 info3 rfl (by decide) (by omega) u3 x3_1 ((rd_T80 l0 x11_1).f1) [.int .i64 ((rd_T80 l0 x11_1).f1)] (fun _ => True) (fun _ => False) rfl (by first | (go_simp; done) | (go_simp; rfl)) ?aP (fun _ hk => hk.elim) ?aF ?aO ?aB ?aS ?aL ?_; (case aP => exact rfl); (case aB => exact bsw_); (case aF => exact (fun _ _ => trivial)); (case aO => exact (by (with_reducible repeat (first | apply Kd.R_alloc | apply Kd.R_drewN | apply Kd.R_drew)); exact Kd.R_mono (Kd.R_far (p := ⟨gb131, 1, none⟩) (Kd.R_far (p := ⟨gb131, 0, none⟩) (Kd.R_types HO_3.out BK131.out (by decide)) (fun _ hk => hk.2) (.int .i64 ((rd_T80 l0 x11_1).f0))) (fun _ hk => hk.2) (.int .i64 ((rd_T80 l0 x11_1).f1))) (fun _ hk => trivial))); (case aS => exact (below_size bsw_)); (case aL => have := LMc9.out; omega); intro v133 w12 ho hb hg hat; rw [← Ny132.out] at ho; replace BK131 := ak (blk_grown (g := gb131) (o := .cells #[.int .i64 ((rd_T80 l0 x11_1).f0), .int .i64 ((rd_T80 l0 x11_1).f1)] 80 (0, 0)) (by (with_reducible repeat (first | refine blk_drewN ?_ _ | refine blk_drew ?_ | refine blk_alloc ?_ _)); refine blk_put (cs := #[.int .i64 ((rd_T80 l0 x11_1).f0), .int .i64 0]) ?_ 1 _ rfl; (with_reducible repeat (first | refine blk_drewN ?_ _ | refine blk_drew ?_ | refine blk_alloc ?_ _)); refine blk_put (cs := #[.int .i64 0, .int .i64 0]) ?_ 0 _ rfl; (with_reducible repeat (first | refine blk_drewN ?_ _ | refine blk_drew ?_ | refine blk_alloc ?_ _)); exact BK131.out) hg (Kd.R_ne HO_3.out BK131.out (by decide))); replace HB := ak (hb); replace HO134 := ak (ho); clear HO_3; clear ho hb hg hat))
               go_roundg k1
               case measure => have := HK1.out; omega
               case rel => exact ⟨(y132), (wrap64 (x11_1 + 1)), (by first | rfl | (simp; done) | (simp [*]; done)), H', ⟨by have := HK1.out; omega⟩, ⟨rq_ HO134⟩, ⟨bsw_⟩⟩
             · rw [if_neg c9] at H
               exact absurd H (by simp)
           · rw [if_neg c8] at H
             have c8b0 : (((rd_T80 l0 x11_1).f0) == 2) = false := beq_eq_false_iff_ne.mpr c8
             have c8b1 : (((rd_T80 l0 x11_1).f0) != 2) = true := bne_iff_ne.mpr c8
             have H' := ak H
             clear H
             have p130 : 0 ≤ (x11_1 : Int) := oda_
             have q130 : x11_1 < (l0.length : Int) := oda_
             obtain ⟨ad130, e130, hx130_0, hx130_1⟩ := at_T80 HR0.out x11_1 p130 q130
             cases e130
             replace hx130_0 := bl_ HB hx130_0
             replace hx130_1 := bl_ HB hx130_1
             replace p130 := eq_true p130
             replace q130 := eq_true q130
             go_wp2_with (first | ((with_reducible refine gate_dst (N := 5) rfl ?_); refine box_event ?hg (N := 5) ?hd (cs := #[.int .i64 0, .int .i64 0]) (t := 80) ?hr ?_; (case hd => rfl); (case hg => rfl); (case hr => first | (go_simp; done) | (go_simp; rfl)); intro gb131 hg w13 hbox hb; replace HO_3 := rb_ HO_3 hb; replace BK131 := ak (hbox); replace GW131 := ak ((by rw [hg]; exact bsz_ : w.heap.size ≤ gb131)); replace HB := ak (bst_ hb); replace GE131 := GW131; clear hb hbox hg; obtain ⟨hcz14_0, hcz14_1, hfz14_0, hfz14_1⟩ := bz2_ BK131))
             go_roundg k1
             case measure => have := HK1.out; omega
             case rel => exact ⟨(x3_1), (wrap64 (x11_1 + 1)), (by first | rfl | (simp; done) | (simp [*]; done)), H', ⟨by have := HK1.out; omega⟩, ⟨by (with_reducible repeat (first | apply Kd.R_alloc | apply Kd.R_drewN | apply Kd.R_drew)); exact Kd.R_mono (Kd.R_far (p := ⟨gb131, 1, none⟩) (Kd.R_far (p := ⟨gb131, 0, none⟩) (Kd.R_types HO_3.out BK131.out (by decide)) (fun _ hk => hk.2) (.int .i64 ((rd_T80 l0 x11_1).f0))) (fun _ hk => hk.2) (.int .i64 ((rd_T80 l0 x11_1).f1))) (fun _ hk => trivial)⟩, ⟨bsw_⟩⟩
         · rw [if_neg c7] at H
           exact absurd H (by simp)
       · rw [if_neg c6] at H
         exact absurd H (by simp)
     · rw [if_neg c5] at H
       have c5b0 : decide (x11_1 < (l0.length : Int)) = false := decide_eq_false c5
       clear c5
       obtain ⟨t135, A15, H⟩ := bd_ H
       obtain ⟨t136, A16, H⟩ := bd_ H
       obtain rfl := Option.some.inj H
       obtain ⟨Ao17, co17, eo17⟩ := Kd.R_slice HO_3.out
       subst eo17
       go_wp2_with (first | ((with_reducible refine gate_callee (f := 84) rfl ?_); refine goesL_ (some 25) rfl rfl Try.func84 (by kernel_rfl) rfl #[.slice Ao17 x3_1.length co17] rfl mp_ ?_; (with_reducible refine (slices_Sort.calls (fun k_ => some k_ = (.slice Ao17 x3_1.length co17 : Value).ownBlock) (.slice Ao17 x3_1.length co17) x3_1 t135 w _ ?side1 ?side2 A15.out).mono ?_); (case side1 => repeat (with_reducible first | exact HB.out | apply below_alloc | apply pw_below_drewN | apply below_drew1)); (case side2 => exact Kd.R_tight rfl HO_3.out); rintro e w18 ⟨rfl, hy0, hb, hkp⟩; refine ⟨_, rfl, ?_⟩; replace HO_3 := ak (Kd.R_reok rfl hy0 (fun k_ e_ => HO_3.out.1 k_ e_)); replace HB := ak (hb); (try clear hb); (try clear hkp); (try clear hy0)) | ((with_reducible refine gate_callee (f := 98) rfl ?_); refine goesL_ (some 27) rfl rfl Try.func98 (by kernel_rfl) rfl #[.slice Ao17 x3_1.length co17] rfl mp_ ?_; (with_reducible refine (slices_Compact.calls (fun k_ => some k_ = (.slice Ao17 x3_1.length co17 : Value).ownBlock) (.slice Ao17 x3_1.length co17) t135 t136 w _ ?side1 ?side2 A16.out).mono ?_); (case side1 => repeat (with_reducible first | exact HB.out | apply below_alloc | apply pw_below_drewN | apply below_drew1)); (case side2 => exact Kd.R_tight rfl HO_3.out); rintro e w19 ⟨v137, rfl, ho0, hb, hkp⟩; refine ⟨_, rfl, ?_⟩; replace HO138 := ak (Kd.R_mono (ok' := fun k_ => True) ho0 (fun k_ hk_ => trivial)); replace HB := ak (hb); clear HO_3; (try clear hb); (try clear hkp); (try clear ho0)))
       go_ret
       exact ⟨_, by first | rfl | (simp [errW_none, errW_some] <;> rfl) | (simp [*, errW_none, errW_some] <;> rfl), rq_ HO138, bsv_⟩
 · rw [if_neg c3] at H
   have c3b0 : (t129 == 0) = false := beq_eq_false_iff_ne.mpr c3
   have c3b1 : (t129 != 0) = true := bne_iff_ne.mpr c3
   obtain rfl := Option.some.inj H
   go_enter Try.func72, Try.ntmps72
   go_wp2_with (first | ((with_reducible refine gate_callee (f := 70) rfl ?_); refine goesL_ (some 7) rfl rfl Try.func70 (by kernel_rfl) rfl #[.slice A0 l0.length c0] rfl mp_ ?_; (with_reducible refine (term_Check.calls k _ _ l0 t129 _ ?side1 ?side2 A2.out).mono ?_); (case side1 => repeat (first | exact HR0.out | with_reducible first | refine Kd.C_alloc ?_ _ | refine Kd.C_drewN ?_ _ | refine Kd.C_drew ?_)); (case side2 => exact HC0.out); rintro e w20 ⟨rfl, hb⟩; refine ⟨_, rfl, ?_⟩; replace HB := ak (bst_ hb); (try clear hb); (try clear hb2); (try clear hk); (try clear hi)))
   go_ret
   exact ⟨_, by first | rfl | (simp [errW_none, errW_some] <;> rfl) | (simp [*, errW_none, errW_some] <;> rfl), by first | exact Kd.R_nil _ _ _ _ _ | exact Kd.N_nil _ _ _ _ _ | exact Kd.V_nil _ _ _ _ _ | exact Kd.Q_nil _ _ _ _ _ | exact Kd.S_nil _ _ _ _ _, bsv_⟩

/-! ### any_at_sleep_Sleeper_may_1: function 68 at the function value 69 -/
def any_at_sleep_Sleeper_may_1.f (l0 : List (S80)) : Option (Bool) := anyF (fun x => sleep_Sleeper_may_1.f  x.f0 x.f1) l0
theorem any_at_sleep_Sleeper_may_1.calls (A0 : Option Addr) (c0 : Nat) (l0 : List (S80)) (r : Bool) (w : World) (hr0 : Kd.C k80 w A0 l0.length l0) (hc0 : l0.length ≤ c0) (h : any_at_sleep_Sleeper_may_1.f l0 = some r) :
 Calls Try.prog 68 #[.slice A0 l0.length c0, .func (.func 69) #[] #[]] w fun e w' => e = .returned (.bool r) ∧ Below w.heap.size w w' :=
 ho68 (fun x => sleep_Sleeper_may_1.f  x.f0 x.f1) 69 #[] #[] (enters_of Try.func69 (by kernel_rfl) rfl) A0 c0 l0 r w hr0 (fun W x b hW_ hx => by
  show Calls Try.prog 69 #[.agg #[.int .i64 x.f0, .int .i64 x.f1]] W _
  exact (sleep_Sleeper_may_1.calls  x.f0 x.f1 b W hx).mono (fun e W' ⟨he, hd⟩ => ⟨he, hd⟩)) h

end Go.Proofs.Ytjnkpocfmpbpoaa.F
