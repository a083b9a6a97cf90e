-- PRINTED by print.py (a twelfth state) out of the translation. Not trusted: Lean checks it.
import Derived.Test.YtlfmobnmohnjmaaTx0
import Derived.Test.YtlfmobnmohnjmaaTx2
import Derived.Test.YtlfmobnmohnjmaaTx4
import Derived.Test.YtlfmobnmohnjmaaTx7
namespace Go.Proofs.Ytlfmobnmohnjmaa.T
open Go.Proofs.Ytlfmobnmohnjmaa.Ho
open Go.RowKit Go.Proofs.YtlfmobnmohnjmaaW.PrintWords Go.Proofs.YtlfmobnmohnjmaaW.PrintLast Go.Proofs.YtlfmobnmohnjmaaW.PrintMore
attribute [local go_sem] max2_int min2_int max_two min_two max_three min_three max_four min_four   -- for this text's walks alone
set_option linter.unusedVariables false
set_option linter.unusedSimpArgs false

theorem handshakerlaw03_StripeCells.mnno {a b c : Nat} {j : Int} (h : (if (a : Int) < (b : Int) then (a : Int) else (b : Int)) = j) (hd : decide ((c : Int) ≤ j) = true) : (a < b → ¬ c ≤ a → False) ∧ (¬ a < b → ¬ c ≤ b → False) := by
 have hd := of_decide_eq_true hd
 subst h
 constructor <;> intro h1 h2
 · rw [if_pos (by omega)] at hd; omega
 · rw [if_neg (by omega)] at hd; omega
/-! ### handshakerlaw03_StripeCells: function 13 -/
mutual
def handshakerlaw03_StripeCells.j0 : Nat → List (S67) → Int → List Int → Bool → Option (Bool)
 | 0, _, _, _, _ => none
 | k + 1, x0, x1, x2, x25 => if x25 = true then ((handshakerlaw03_awake.f k).bind fun t471 => (some t471)) else ((stripe_Of.f k x0 (([wrap64 (x1)] : List Int))).bind fun t475 => ((stripe_Of.f k x0 (([wrap64 ((wrap64 (x1)) + (x0.length : Int))] : List Int))).bind fun t481 => (handshakerlaw03_StripeCells.l0 k x0 x2 t475 t481 ([] : List Int) ([] : List Int) (x2.length : Int) 0)))
def handshakerlaw03_StripeCells.l0 : Nat → List (S67) → List Int → List Int → List Int → List Int → List Int → Int → Int → Option (Bool)
 | 0, _, _, _, _, _, _, _, _ => none
 | k + 1, x0, x2, x8, x9, x10, x11, x41, x42 => if x42 < x41 then (if 0 ≤ x42 then (if x42 < (x2.length : Int) then (if x10.length < 17592186044416 then (if 0 ≤ (wrap64 ((wrap64 ((x2.length : Int) - 1)) - x42)) then (if (wrap64 ((wrap64 ((x2.length : Int) - 1)) - x42)) < (x2.length : Int) then (if x11.length < 17592186044416 then (handshakerlaw03_StripeCells.l0 k x0 x2 x8 x9 (x10 ++ [wrap64 (rd x2 x42)]) (x11 ++ [wrap64 (rd x2 (wrap64 ((wrap64 ((x2.length : Int) - 1)) - x42)))]) x41 (wrap64 (x42 + 1))) else (none)) else (none)) else (none)) else (none)) else (none)) else (none)) else (if (x8.length : Int) = 1 then (if 0 < (x8.length : Int) then (if (rd x8 0) ≥ 0 then (if (rd x8 0) < (x0.length : Int) then ((handshakerref03_Numbers.f k x8 x9).bind fun t494 => (if t494 = true then ((stripe_Of.f k x0 ([] : List Int)).bind fun t495 => (if (t495.length : Int) = 0 then ((stripe_Of.f k x0 x10).bind fun t498 => ((stripe_Of.f k x0 x11).bind fun t501 => ((handshakerref03_Numbers.f k t498 t501).bind fun t504 => (if t504 = true then ((stripe_Of.f k x0 x10).bind fun t505 => (if (t505.length : Int) ≤ (mn (x0.length : Int) (x10.length : Int)) then ((handshakerlaw03_awake.f k).bind fun t508 => (some t508)) else (some false))) else (some false))))) else (some false))) else (some false))) else (some false)) else (some false)) else (none)) else (some false))
end
def handshakerlaw03_StripeCells.f (k : Nat) (l0 : List (S67)) (a1 : Int) (l2 : List Int) : Option (Bool) := if (l0.length : Int) > 16 then (handshakerlaw03_StripeCells.j0 k l0 a1 l2 true) else (if (l2.length : Int) > 30 then (handshakerlaw03_StripeCells.j0 k l0 a1 l2 true) else ((stripe_Right.f l0).bind fun t470 => (handshakerlaw03_StripeCells.j0 k l0 a1 l2 (!t470))))
theorem handshakerlaw03_StripeCells.mono_l : ∀ k, (∀ y0 y1 y2 y3, LeO (handshakerlaw03_StripeCells.j0 k y0 y1 y2 y3) (handshakerlaw03_StripeCells.j0 (k + 1) y0 y1 y2 y3)) ∧ (∀ y0 y1 y2 y3 y4 y5 y6 y7, LeO (handshakerlaw03_StripeCells.l0 k y0 y1 y2 y3 y4 y5 y6 y7) (handshakerlaw03_StripeCells.l0 (k + 1) y0 y1 y2 y3 y4 y5 y6 y7))
 | 0 => ⟨fun _ _ _ _ r h => by simp [handshakerlaw03_StripeCells.j0] at h, fun _ _ _ _ _ _ _ _ r h => by simp [handshakerlaw03_StripeCells.l0] at h⟩
 | k + 1 => by
  obtain ⟨ih0, ih1⟩ := handshakerlaw03_StripeCells.mono_l k
  refine ⟨?_, ?_⟩
  · intro y0 y1 y2 y3
    unfold handshakerlaw03_StripeCells.j0
    repeat' first
    | (with_reducible exact ih0 _ _ _ _)
    | (with_reducible exact ih1 _ _ _ _ _ _ _ _)
    | (with_reducible exact handshakerlaw03_awake.mono _)
    | (with_reducible exact handshakerref03_Numbers.mono _ _ _)
    | (with_reducible exact stripe_Of.mono _ _ _)
    | (with_reducible exact LeO.refl _)
    | (with_reducible exact LeO.none _)
    | (with_reducible refine LeO.ite ?_ ?_)
    | (with_reducible refine LeO.bind ?_ (fun _ => ?_))
    | exact ih0 _ _ _ _
    | exact ih1 _ _ _ _ _ _ _ _
    | exact handshakerlaw03_awake.mono _
    | exact handshakerref03_Numbers.mono _ _ _
    | exact stripe_Of.mono _ _ _
    | exact LeO.none _
    | refine LeO.ite ?_ ?_
    | refine LeO.bind ?_ (fun _ => ?_)
  · intro y0 y1 y2 y3 y4 y5 y6 y7
    unfold handshakerlaw03_StripeCells.l0
    repeat' first
    | (with_reducible exact ih0 _ _ _ _)
    | (with_reducible exact ih1 _ _ _ _ _ _ _ _)
    | (with_reducible exact handshakerlaw03_awake.mono _)
    | (with_reducible exact handshakerref03_Numbers.mono _ _ _)
    | (with_reducible exact stripe_Of.mono _ _ _)
    | (with_reducible exact LeO.refl _)
    | (with_reducible exact LeO.none _)
    | (with_reducible refine LeO.ite ?_ ?_)
    | (with_reducible refine LeO.bind ?_ (fun _ => ?_))
    | exact ih0 _ _ _ _
    | exact ih1 _ _ _ _ _ _ _ _
    | exact handshakerlaw03_awake.mono _
    | exact handshakerref03_Numbers.mono _ _ _
    | exact stripe_Of.mono _ _ _
    | exact LeO.none _
    | refine LeO.ite ?_ ?_
    | refine LeO.bind ?_ (fun _ => ?_)
theorem handshakerlaw03_StripeCells.mono : ∀ a0 a1 a2 k, LeO (handshakerlaw03_StripeCells.f k a0 a1 a2) (handshakerlaw03_StripeCells.f (k + 1) a0 a1 a2) := by
 intro a0 a1 a2 k
 obtain ⟨ih0, ih1⟩ := handshakerlaw03_StripeCells.mono_l k
 unfold handshakerlaw03_StripeCells.f
 repeat' first
  | (with_reducible exact ih0 _ _ _ _)
  | (with_reducible exact ih1 _ _ _ _ _ _ _ _)
  | (with_reducible exact handshakerlaw03_awake.mono _)
  | (with_reducible exact handshakerref03_Numbers.mono _ _ _)
  | (with_reducible exact stripe_Of.mono _ _ _)
  | (with_reducible exact LeO.refl _)
  | (with_reducible exact LeO.none _)
  | (with_reducible refine LeO.ite ?_ ?_)
  | (with_reducible refine LeO.bind ?_ (fun _ => ?_))
  | exact ih0 _ _ _ _
  | exact ih1 _ _ _ _ _ _ _ _
  | exact handshakerlaw03_awake.mono _
  | exact handshakerref03_Numbers.mono _ _ _
  | exact stripe_Of.mono _ _ _
  | exact LeO.none _
  | refine LeO.ite ?_ ?_
  | refine LeO.bind ?_ (fun _ => ?_)
set_option maxHeartbeats 8000000 in
set_option maxRecDepth 100000 in
theorem handshakerlaw03_StripeCells.calls (k : Nat) (A0 : Option Addr) (c0 : Nat) (l0 : List (S67)) (a1 : Int) (A2 : Option Addr) (c2 : Nat) (l2 : List Int) (r : Bool) (w : World) (HT : Aside0 (r = true)) (hr0 : Kd.C k67 w A0 l0.length l0) (hc0 : l0.length ≤ c0) (hr2 : Kd.C (Kd.int .u16) w A2 l2.length l2) (hc2 : l2.length ≤ c2) (h : handshakerlaw03_StripeCells.f k l0 a1 l2 = some r) :
 Calls Try.prog 13 #[.slice A0 l0.length c0, .int .u16 a1, .slice A2 l2.length c2] w fun e w' => e = .returned (.bool r) ∧ Below w.heap.size w w' := by
 have HR0 := Aside0.mk hr0
 have HC0 := Aside0.mk hc0
 clear hr0 hc0
 have HR2 := Aside0.mk hr2
 have HC2 := Aside0.mk hc2
 clear hr2 hc2
 have HB := Aside0.mk (Below.refl w.heap.size w)
 have H : (if (l0.length : Int) > 16 then (handshakerlaw03_StripeCells.j0 k l0 a1 l2 true) else (if (l2.length : Int) > 30 then (handshakerlaw03_StripeCells.j0 k l0 a1 l2 true) else ((stripe_Right.f l0).bind fun t470 => (handshakerlaw03_StripeCells.j0 k l0 a1 l2 (!t470))))) = some r := h
 clear h
 have HC4 := Aside0.mk H
 clear H
 go_enter Try.func13, Try.ntmps13
 go_upto_region 1 with (fail)
 go_cut [25] (fun v25 wc => ∃ (kq : Nat) (x25_3 : Bool), v25 = .bool x25_3 ∧ Aside0 (handshakerlaw03_StripeCells.j0 kq l0 a1 l2 x25_3 = some r) ∧ Aside0 (kq ≤ k) ∧ Aside0 (Below w.heap.size w wc))
 case first =>
  have H := HC4.out
  clear HC4
  by_cases c5 : (l0.length : Int) > 16
  · rw [if_pos c5] at H
    have c5b0 : decide (16 < (l0.length : Int)) = true := decide_eq_true c5
    have c5b1 : decide (16 < l0.length) = true := decide_eq_true (by omega)
    clear c5
    (first | rw [c5b0] | (simp only [i64_w, i32_w]; rw [c5b0]) | skip)
    have H' := Aside0.mk H
    clear H
    go_wp2
    go_meet
    case rel => exact ⟨_, (true), (by first | rfl | (simp; done) | (simp [*]; done)), H', ⟨by first | omega | exact Nat.le_refl _⟩, ⟨by repeat (with_reducible first | exact HB.out | apply below_alloc | apply pw_below_drewN | apply below_drew1)⟩⟩
  · rw [if_neg c5] at H
    have c5b0 : decide (16 < (l0.length : Int)) = false := decide_eq_false c5
    have c5b1 : decide (16 < l0.length) = false := decide_eq_false (by omega)
    clear c5
    (first | rw [c5b0] | (simp only [i64_w, i32_w]; rw [c5b0]) | skip)
    by_cases c6 : (l2.length : Int) > 30
    · rw [if_pos c6] at H
      have c6b0 : decide (30 < (l2.length : Int)) = true := decide_eq_true c6
      have c6b1 : decide (30 < l2.length) = true := decide_eq_true (by omega)
      clear c6
      have H' := Aside0.mk H
      clear H
      go_wp2
      go_meet
      case rel => exact ⟨_, (true), (by first | rfl | (simp; done) | (simp [*]; done)), H', ⟨by first | omega | exact Nat.le_refl _⟩, ⟨by repeat (with_reducible first | exact HB.out | apply below_alloc | apply pw_below_drewN | apply below_drew1)⟩⟩
    · rw [if_neg c6] at H
      have c6b0 : decide (30 < (l2.length : Int)) = false := decide_eq_false c6
      have c6b1 : decide (30 < l2.length) = false := decide_eq_false (by omega)
      clear c6
      replace H := Option.bind_eq_some_iff.mp H
      obtain ⟨t470, A70, H⟩ := H
      replace H : (handshakerlaw03_StripeCells.j0 k l0 a1 l2 (!t470)) = some r := H
      have A7 := Aside0.mk A70
      clear A70
      have H' := Aside0.mk H
      clear H
      go_wp2_with (first | (go_at_call 37; (with_reducible refine (stripe_Right.calls _ _ l0 t470 _ ?side1 ?side2 A7.out).mono ?_); (case side1 => repeat (first | exact (Kd.C_below HR0.out HB.out) | with_reducible first | refine Kd.C_alloc ?_ _ | refine Kd.C_drewN ?_ _ | refine Kd.C_drew ?_)); (case side2 => exact HC0.out); rintro e w8 ⟨rfl, hb⟩; have n0_ := Aside0.mk (bst_ hb); clear HB; have HB := n0_; clear n0_; (try clear hb); (try clear hb2); (try clear hk); (try clear hi)))
      go_meet
      case rel => exact ⟨_, (!t470), (by first | rfl | (simp; done) | (simp [*]; done)), H', ⟨by first | omega | exact Nat.le_refl _⟩, ⟨by repeat (with_reducible first | exact HB.out | apply below_alloc | apply pw_below_drewN | apply below_drew1)⟩⟩
 case rest =>
  clear HC4
  try clear c1
  try clear c2
  try clear p2
  try clear c5
  try clear c5b0
  try clear c5b1
  try clear c6
  try clear c6b0
  try clear c6b1
  obtain ⟨kq, x25_3, rfl, HA, HJ3, HB⟩ := hcut
  cases kq with
  | zero => exact absurd HA.out (by simp [handshakerlaw03_StripeCells.j0])
  | succ kj3 =>
   have H := HA.out
   clear HA
   simp only [handshakerlaw03_StripeCells.j0] at H
   by_cases c9 : x25_3 = true
   · subst c9
     have H1 : ((handshakerlaw03_awake.f kj3).bind fun t471 => (some t471)) = some r := by rw [if_pos rfl] at H; exact H
     clear H
     have H := H1
     clear H1
     replace H := Option.bind_eq_some_iff.mp H
     obtain ⟨t471, A100, H⟩ := H
     replace H : (some t471) = some r := H
     have A10 := Aside0.mk A100
     clear A100
     obtain rfl := Option.some.inj H
     go_wp2_with (first | ((with_reducible refine gate_callee (f := 33) rfl ?_); refine goesL_ (some 26) rfl rfl Try.func33 (by kernel_rfl) rfl #[] rfl (by (try simp only [List.map_toArray, List.map_cons, List.map_nil]); first | done | rfl) ?_; (with_reducible refine (handshakerlaw03_awake.calls kj3  t471 _ A10.out).mono ?_); rintro e w11 ⟨rfl, hb⟩; refine ⟨_, rfl, ?_⟩; have n0_ := Aside0.mk (bst_ hb); clear HB; have HB := n0_; clear n0_; (try clear hb); (try clear hb2); (try clear hk); (try clear hi)))
     go_ret
     exact ⟨by first | rfl | (simp [errW_none, errW_some] <;> rfl) | (simp [*, errW_none, errW_some] <;> rfl), by repeat (with_reducible first | exact HB.out | apply below_alloc | apply pw_below_drewN | apply below_drew1)⟩
   · replace c9 := Bool.eq_false_iff.mpr c9
     subst c9
     have H1 : ((stripe_Of.f kj3 l0 (([wrap64 (a1)] : List Int))).bind fun t475 => ((stripe_Of.f kj3 l0 (([wrap64 ((wrap64 (a1)) + (l0.length : Int))] : List Int))).bind fun t481 => (handshakerlaw03_StripeCells.l0 kj3 l0 l2 t475 t481 ([] : List Int) ([] : List Int) (l2.length : Int) 0))) = some r := by rw [if_neg (show ¬ (false = true) by decide)] at H; exact H
     clear H
     have H := H1
     clear H1
     obtain ⟨y472, hy472⟩ : ∃ y_ : List Int, y_ = (([wrap64 (a1)] : List Int)) := ⟨_, rfl⟩
     replace H : ((stripe_Of.f kj3 l0 y472).bind fun t475 => ((stripe_Of.f kj3 l0 (([wrap64 ((wrap64 (a1)) + (l0.length : Int))] : List Int))).bind fun t481 => (handshakerlaw03_StripeCells.l0 kj3 l0 l2 t475 t481 ([] : List Int) ([] : List Int) (l2.length : Int) 0))) = some r := by first | (rw [hy472]; with_reducible exact H) | (have H2_ := (Option.bind_some _ _).symm.trans H; rw [hy472]; with_reducible exact H2_) | (have H2_ := (Option.bind_some _ _).symm.trans H; with_reducible exact H2_) | with_reducible exact H | (rw [hy472]; exact H) | exact H
     have Ny472 := Aside0.mk hy472
     clear hy472
     replace H := Option.bind_eq_some_iff.mp H
     obtain ⟨t475, A120, H⟩ := H
     replace H : ((stripe_Of.f kj3 l0 (([wrap64 ((wrap64 (a1)) + (l0.length : Int))] : List Int))).bind fun t481 => (handshakerlaw03_StripeCells.l0 kj3 l0 l2 t475 t481 ([] : List Int) ([] : List Int) (l2.length : Int) 0)) = some r := H
     have A12 := Aside0.mk A120
     clear A120
     obtain ⟨y478, hy478⟩ : ∃ y_ : List Int, y_ = (([wrap64 ((wrap64 (a1)) + (l0.length : Int))] : List Int)) := ⟨_, rfl⟩
     replace H : ((stripe_Of.f kj3 l0 y478).bind fun t481 => (handshakerlaw03_StripeCells.l0 kj3 l0 l2 t475 t481 ([] : List Int) ([] : List Int) (l2.length : Int) 0)) = some r := by first | (rw [hy478]; with_reducible exact H) | (have H2_ := (Option.bind_some _ _).symm.trans H; rw [hy478]; with_reducible exact H2_) | (have H2_ := (Option.bind_some _ _).symm.trans H; with_reducible exact H2_) | with_reducible exact H | (rw [hy478]; exact H) | exact H
     have Ny478 := Aside0.mk hy478
     clear hy478
     replace H := Option.bind_eq_some_iff.mp H
     obtain ⟨t481, A130, H⟩ := H
     replace H : (handshakerlaw03_StripeCells.l0 kj3 l0 l2 t475 t481 ([] : List Int) ([] : List Int) (l2.length : Int) 0) = some r := H
     have A13 := Aside0.mk A130
     clear A130
     have H' := Aside0.mk H
     clear H
     go_wp2_with (first | ((with_reducible refine gate_dst (N := 31) rfl ?_); (try (refine gate_guard (by rfl) ?_; dsimp only)); refine Kd.R_lit (Kd.int .i64) _ 3 ?hg (N := 31) ?hd (xs := ([wrap64 (a1)] : List Int)) (inner := [.int .i64 (wrap64 (a1))]) (ok := fun _ => True) (okp := fun _ => True) ?hr ?hp (fun _ hk => hk) trivial (Below.refl _ _) (Nat.le_refl _) (by simp) ?_; (case hd => rfl); (case hg => rfl); (case hr => first | (go_simp; done) | (go_simp; rfl)); (case hp => exact (Reps.one (show Kd.M (Kd.int .i64) _ _ _ (wrap64 (a1)) [.int .i64 (wrap64 (a1))] from rfl) (Reps.none _ _))); intro v473 w14 ho15 hb hg_ hnew_; clear hg_ hnew_; (first | rw [← Ny472.out] at ho15 | (simp only [Int.reduceToNat] at ho15; rw [← Ny472.out] at ho15)); have n0_ := Aside0.mk (Kd.R_lower ho15 bsz_); have n1_ := Aside0.mk (bst_ hb); clear HB; have HO474 := n0_; have HB := n1_; clear n0_ n1_; clear hb ho15; obtain ⟨Ao16, co16, eo16⟩ := Kd.R_slice HO474.out; subst eo16) | ((with_reducible refine gate_callee (f := 31) rfl ?_); refine goesL_ (some 32) rfl rfl Try.func31 (by kernel_rfl) rfl #[.slice A0 l0.length c0, .slice Ao16 y472.length co16] rfl (by (try simp only [List.map_toArray, List.map_cons, List.map_nil]); first | done | rfl) ?_; (with_reducible refine (stripe_Of.calls kj3 _ _ l0 _ _ y472 t475 _ ?side1 ?side2 ?side3 ?side4 A12.out).mono ?_); (case side1 => repeat (first | exact (Kd.C_below HR0.out HB.out) | with_reducible first | refine Kd.C_alloc ?_ _ | refine Kd.C_drewN ?_ _ | refine Kd.C_drew ?_)); (case side2 => exact HC0.out); (case side3 => repeat (first | exact (Kd.R_reads' HO474.out).2.2 | with_reducible first | refine Kd.C_alloc ?_ _ | refine Kd.C_drewN ?_ _ | refine Kd.C_drew ?_)); (case side4 => exact (Kd.R_reads' HO474.out).2.1); rintro e w17 ⟨v476, rfl, ho0, hb⟩; refine ⟨_, rfl, ?_⟩; have n0_ := Aside0.mk (Kd.R_elder' (by (with_reducible repeat (first | apply Kd.R_alloc | apply Kd.R_drewN | apply Kd.R_drew)); exact HO474.out) (Kd.R_base ho0) hb); have n1_ := Aside0.mk (Kd.R_lower (Kd.R_new' ho0 (Kd.R_lt (by (with_reducible repeat (first | apply Kd.R_alloc | apply Kd.R_drewN | apply Kd.R_drew)); exact HO474.out))) bsz_); have n2_ := Aside0.mk (bst_ hb); clear HO474; clear HB; have HO474 := n0_; have HO477 := n1_; have HB := n2_; clear n0_ n1_ n2_; (try clear hb); (try clear hb2); (try clear hk); (try clear hi); (try clear ho0)) | ((with_reducible refine gate_dst (N := 38) rfl ?_); (try (refine gate_guard (by rfl) ?_; dsimp only)); refine Kd.R_lit (Kd.int .i64) _ 3 ?hg (N := 38) ?hd (xs := ([wrap64 ((wrap64 (a1)) + (l0.length : Int))] : List Int)) (inner := [.int .i64 (wrap64 ((wrap64 (a1)) + (l0.length : Int)))]) (ok := fun _ => True) (okp := fun _ => True) ?hr ?hp (fun _ hk => hk) trivial (Below.refl _ _) (Nat.le_refl _) (by simp) ?_; (case hd => rfl); (case hg => rfl); (case hr => first | (go_simp; done) | (go_simp; rfl)); (case hp => exact (Reps.one (show Kd.M (Kd.int .i64) _ _ _ (wrap64 ((wrap64 (a1)) + (l0.length : Int))) [.int .i64 (wrap64 ((wrap64 (a1)) + (l0.length : Int)))] from rfl) (Reps.none _ _))); intro v479 w18 ho19 hb hg_ hnew_; clear hg_ hnew_; (first | rw [← Ny478.out] at ho19 | (simp only [Int.reduceToNat] at ho19; rw [← Ny478.out] at ho19)); have n0_ := Aside0.mk (Kd.R_elder' (by (with_reducible repeat (first | apply Kd.R_alloc | apply Kd.R_drewN | apply Kd.R_drew)); exact HO474.out) (Kd.R_base ho19) hb); have n1_ := Aside0.mk (Kd.R_elder' (by (with_reducible repeat (first | apply Kd.R_alloc | apply Kd.R_drewN | apply Kd.R_drew)); exact HO477.out) (Kd.R_base ho19) hb); have n2_ := Aside0.mk (Kd.R_lower (Kd.R_new' (Kd.R_new' ho19 (Kd.R_lt (by (with_reducible repeat (first | apply Kd.R_alloc | apply Kd.R_drewN | apply Kd.R_drew)); exact HO474.out))) (Kd.R_lt (by (with_reducible repeat (first | apply Kd.R_alloc | apply Kd.R_drewN | apply Kd.R_drew)); exact HO477.out))) bsz_); have n3_ := Aside0.mk (bst_ hb); clear HO474; clear HO477; clear HB; have HO474 := n0_; have HO477 := n1_; have HO480 := n2_; have HB := n3_; clear n0_ n1_ n2_ n3_; clear hb ho19; obtain ⟨Ao20, co20, eo20⟩ := Kd.R_slice HO480.out; subst eo20) | ((with_reducible refine gate_callee (f := 31) rfl ?_); refine goesL_ (some 39) rfl rfl Try.func31 (by kernel_rfl) rfl #[.slice A0 l0.length c0, .slice Ao20 y478.length co20] rfl (by (try simp only [List.map_toArray, List.map_cons, List.map_nil]); first | done | rfl) ?_; (with_reducible refine (stripe_Of.calls kj3 _ _ l0 _ _ y478 t481 _ ?side1 ?side2 ?side3 ?side4 A13.out).mono ?_); (case side1 => repeat (first | exact (Kd.C_below HR0.out HB.out) | with_reducible first | refine Kd.C_alloc ?_ _ | refine Kd.C_drewN ?_ _ | refine Kd.C_drew ?_)); (case side2 => exact HC0.out); (case side3 => repeat (first | exact (Kd.R_reads' HO480.out).2.2 | with_reducible first | refine Kd.C_alloc ?_ _ | refine Kd.C_drewN ?_ _ | refine Kd.C_drew ?_)); (case side4 => exact (Kd.R_reads' HO480.out).2.1); rintro e w21 ⟨v482, rfl, ho0, hb⟩; refine ⟨_, rfl, ?_⟩; have n0_ := Aside0.mk (Kd.R_elder' (by (with_reducible repeat (first | apply Kd.R_alloc | apply Kd.R_drewN | apply Kd.R_drew)); exact HO474.out) (Kd.R_base ho0) hb); have n1_ := Aside0.mk (Kd.R_elder' (by (with_reducible repeat (first | apply Kd.R_alloc | apply Kd.R_drewN | apply Kd.R_drew)); exact HO477.out) (Kd.R_base ho0) hb); have n2_ := Aside0.mk (Kd.R_elder' (by (with_reducible repeat (first | apply Kd.R_alloc | apply Kd.R_drewN | apply Kd.R_drew)); exact HO480.out) (Kd.R_base ho0) hb); have n3_ := Aside0.mk (Kd.R_lower (Kd.R_new' (Kd.R_new' (Kd.R_new' ho0 (Kd.R_lt (by (with_reducible repeat (first | apply Kd.R_alloc | apply Kd.R_drewN | apply Kd.R_drew)); exact HO474.out))) (Kd.R_lt (by (with_reducible repeat (first | apply Kd.R_alloc | apply Kd.R_drewN | apply Kd.R_drew)); exact HO477.out))) (Kd.R_lt (by (with_reducible repeat (first | apply Kd.R_alloc | apply Kd.R_drewN | apply Kd.R_drew)); exact HO480.out))) bsz_); have n4_ := Aside0.mk (bst_ hb); clear HO474; clear HO477; clear HO480; clear HB; have HO474 := n0_; have HO477 := n1_; have HO480 := n2_; have HO483 := n3_; have HB := n4_; clear n0_ n1_ n2_ n3_ n4_; (try clear hb); (try clear hb2); (try clear hk); (try clear hi); (try clear ho0)))
     go_loopg [10, 11, 42] kj3 (fun kq v10 v11 v42 w' => ∃ (x10_2 : List Int) (x11_2 : List Int) (x42_2 : Int), v42 = .int .i64 x42_2 ∧ Aside0 (handshakerlaw03_StripeCells.l0 kq l0 l2 t475 t481 x10_2 x11_2 (l2.length : Int) x42_2 = some r) ∧ Aside0 (kq ≤ kj3) ∧ Aside0 (Kd.R (Kd.int .i64) 3 w' w.heap.size (fun k_ => some k_ ≠ (v482 : Value).ownBlock ∧ some k_ ≠ (v10 : Value).ownBlock ∧ some k_ ≠ (v11 : Value).ownBlock) v476 t475) ∧ Aside0 (Kd.R (Kd.int .i64) 3 w' w.heap.size (fun k_ => some k_ ≠ (v476 : Value).ownBlock ∧ some k_ ≠ (v10 : Value).ownBlock ∧ some k_ ≠ (v11 : Value).ownBlock) v482 t481) ∧ Aside0 (Kd.R (Kd.int .i64) 3 w' w.heap.size (fun k_ => some k_ ≠ (v476 : Value).ownBlock ∧ some k_ ≠ (v482 : Value).ownBlock ∧ some k_ ≠ (v11 : Value).ownBlock) v10 x10_2) ∧ Aside0 (Kd.R (Kd.int .i64) 3 w' w.heap.size (fun k_ => some k_ ≠ (v476 : Value).ownBlock ∧ some k_ ≠ (v482 : Value).ownBlock ∧ some k_ ≠ (v10 : Value).ownBlock) v11 x11_2) ∧ Aside0 (Below w.heap.size w w'))
     case atStart => exact ⟨(([] : List Int)), (([] : List Int)), (0), (by first | rfl | (simp; done) | (simp [*]; done)), H', ⟨Nat.le_refl _⟩, ⟨by (with_reducible repeat (first | apply Kd.R_alloc | apply Kd.R_drewN | apply Kd.R_drew)); exact Kd.R_mono HO477.out (fun _ hk => ⟨hk.2, ⟨(by simp [Value.ownBlock]), (by simp [Value.ownBlock])⟩⟩)⟩, ⟨by (with_reducible repeat (first | apply Kd.R_alloc | apply Kd.R_drewN | apply Kd.R_drew)); exact Kd.R_mono HO483.out (fun _ hk => ⟨hk.1.2, ⟨(by simp [Value.ownBlock]), (by simp [Value.ownBlock])⟩⟩)⟩, ⟨by first | exact Kd.R_nil _ _ _ _ _ | exact Kd.N_nil _ _ _ _ _ | exact Kd.V_nil _ _ _ _ _ | exact Kd.Q_nil _ _ _ _ _ | exact Kd.S_nil _ _ _ _ _⟩, ⟨by first | exact Kd.R_nil _ _ _ _ _ | exact Kd.N_nil _ _ _ _ _ | exact Kd.V_nil _ _ _ _ _ | exact Kd.Q_nil _ _ _ _ _ | exact Kd.S_nil _ _ _ _ _⟩, ⟨by repeat (with_reducible first | exact HB.out | apply below_alloc | apply pw_below_drewN | apply below_drew1)⟩⟩
     case round =>
      clear H'
      try clear c1
      try clear c2
      try clear p2
      try clear c3
      try clear c5
      try clear c5b0
      try clear c5b1
      try clear c6
      try clear c6b0
      try clear c6b1
      try clear p6
      try clear c9
      try clear c13
      try clear p2
      obtain ⟨x10_2, x11_2, x42_2, rfl, HA, HK2, HO_8, HO_9, HO_10, HO_11, HB⟩ := hrel
      cases gk with
      | zero => exact absurd HA.out (by simp [handshakerlaw03_StripeCells.l0])
      | succ k2 =>
       have H := HA.out
       clear HA
       simp only [handshakerlaw03_StripeCells.l0] at H
       by_cases c22 : x42_2 < (l2.length : Int)
       · rw [if_pos c22] at H
         have c22b0 : decide (x42_2 < (l2.length : Int)) = true := decide_eq_true c22
         clear c22
         by_cases c23 : 0 ≤ x42_2
         · rw [if_pos c23] at H
           have c23b0 : decide (0 ≤ x42_2) = true := decide_eq_true c23
           clear c23
           by_cases c24 : x42_2 < (l2.length : Int)
           · rw [if_pos c24] at H
             have c24b0 : decide (x42_2 < (l2.length : Int)) = true := decide_eq_true c24
             clear c24
             by_cases c25 : x10_2.length < 17592186044416
             · rw [if_pos c25] at H
               have LMc25 := Aside0.mk c25
               clear c25
               obtain ⟨y485, hy485⟩ : ∃ y_ : List Int, y_ = (x10_2 ++ [wrap64 (rd l2 x42_2)]) := ⟨_, rfl⟩
               replace H : (if 0 ≤ (wrap64 ((wrap64 ((l2.length : Int) - 1)) - x42_2)) then (if (wrap64 ((wrap64 ((l2.length : Int) - 1)) - x42_2)) < (l2.length : Int) then (if x11_2.length < 17592186044416 then (handshakerlaw03_StripeCells.l0 k2 l0 l2 t475 t481 y485 (x11_2 ++ [wrap64 (rd l2 (wrap64 ((wrap64 ((l2.length : Int) - 1)) - x42_2)))]) (l2.length : Int) (wrap64 (x42_2 + 1))) else (none)) else (none)) else (none)) = some r := by first | (rw [hy485]; with_reducible exact H) | (have H2_ := (Option.bind_some _ _).symm.trans H; rw [hy485]; with_reducible exact H2_) | (have H2_ := (Option.bind_some _ _).symm.trans H; with_reducible exact H2_) | with_reducible exact H | (rw [hy485]; exact H) | exact H
               have Ny485 := Aside0.mk hy485
               clear hy485
               obtain ⟨ji26, hji26⟩ : ∃ j_ : Int, (wrap64 ((wrap64 ((l2.length : Int) - 1)) - x42_2)) = j_ := ⟨_, rfl⟩
               replace H : (if 0 ≤ (ji26) then (if (ji26) < (l2.length : Int) then (if x11_2.length < 17592186044416 then (handshakerlaw03_StripeCells.l0 k2 l0 l2 t475 t481 y485 (x11_2 ++ [wrap64 (rd l2 (ji26))]) (l2.length : Int) (wrap64 (x42_2 + 1))) else (none)) else (none)) else (none)) = some r := by first | (rw [hji26] at H; exact H) | (simp only [hji26] at H ⊢; exact H)
               have hji26w : (IntKind.i64.wrap ((wrap64 ((l2.length : Int) - 1)) - x42_2)) = ji26 := (i64_w _).trans hji26
               by_cases c27 : 0 ≤ (ji26)
               · rw [if_pos c27] at H
                 have c27b0 : decide (0 ≤ (ji26)) = true := decide_eq_true c27
                 clear c27
                 by_cases c28 : (ji26) < (l2.length : Int)
                 · rw [if_pos c28] at H
                   have c28b0 : decide ((ji26) < (l2.length : Int)) = true := decide_eq_true c28
                   clear c28
                   by_cases c29 : x11_2.length < 17592186044416
                   · rw [if_pos c29] at H
                     have LMc29 := Aside0.mk c29
                     clear c29
                     obtain ⟨y489, hy489⟩ : ∃ y_ : List Int, y_ = (x11_2 ++ [wrap64 (rd l2 (ji26))]) := ⟨_, rfl⟩
                     replace H : (handshakerlaw03_StripeCells.l0 k2 l0 l2 t475 t481 y485 y489 (l2.length : Int) (wrap64 (x42_2 + 1))) = some r := by first | (rw [hy489]; with_reducible exact H) | (have H2_ := (Option.bind_some _ _).symm.trans H; rw [hy489]; with_reducible exact H2_) | (have H2_ := (Option.bind_some _ _).symm.trans H; with_reducible exact H2_) | with_reducible exact H | (rw [hy489]; exact H) | exact H
                     have Ny489 := Aside0.mk hy489
                     clear hy489
                     have H' := Aside0.mk H
                     clear H
                     have p484 : 0 ≤ (x42_2 : Int) := of_decide_eq_true (by first | (with_reducible assumption) | assumption)
                     have q484 : x42_2 < (l2.length : Int) := of_decide_eq_true (by first | (with_reducible assumption) | assumption)
                     obtain ⟨ad484, e484, hx484_0⟩ := Kd.at_int HR2.out x42_2 p484 q484
                     cases e484
                     replace hx484_0 := (HB.out.cell (World.block_lt_of_cell? w _ hx484_0)).trans hx484_0
                     replace p484 := eq_true p484
                     replace q484 := eq_true q484
                     go_wp2_with (first | ((with_reducible refine gate_builtin (b := .append) (xs := #[.tmp 45, .tmp 51]) rfl ?_); (try (refine gate_guard (by rfl) ?_; dsimp only)); at_builtin; refine Kd.R_append (Kd.int .i64) (w0 := w) w.heap.size rfl (.tmp 45) (.tmp 51) 35 3 (.int .i64 0) 8 rfl Try.underlying35 info3 rfl (by decide) (by omega) u10 x10_2 (wrap64 (rd l2 x42_2)) [.int .i64 (wrap64 (rd l2 x42_2))] (fun k_ => some k_ ≠ (v476 : Value).ownBlock ∧ some k_ ≠ (v482 : Value).ownBlock ∧ some k_ ≠ (u11 : Value).ownBlock) (fun _ => False) rfl rfl ?aP (fun _ hk => hk.elim) ?aF ?aO ?aB ?aS ?aL ?_; (case aP => exact rfl); (case aB => exact (by repeat (with_reducible first | exact HB.out | apply below_alloc | apply pw_below_drewN | apply below_drew1))); (case aF => exact (fun k_ hk => ⟨Kd.fresh' (Kd.R_lt (by (with_reducible repeat (first | apply Kd.R_alloc | apply Kd.R_drewN | apply Kd.R_drew)); exact HO_8.out)) k_ hk, Kd.fresh' (Kd.R_lt (by (with_reducible repeat (first | apply Kd.R_alloc | apply Kd.R_drewN | apply Kd.R_drew)); exact HO_9.out)) k_ hk, Kd.fresh' (Kd.R_lt (by (with_reducible repeat (first | apply Kd.R_alloc | apply Kd.R_drewN | apply Kd.R_drew)); exact HO_11.out)) k_ hk⟩)); (case aO => exact (by (with_reducible repeat (first | apply Kd.R_alloc | apply Kd.R_drewN | apply Kd.R_drew)); exact HO_10.out)); (case aS => exact bsz_); (case aL => have := LMc25.out; omega); intro v486 w30 ho hb hg hat; rw [← Ny485.out] at ho; have n0_ := Aside0.mk (Kd.R_after (ok := (fun k_ => some k_ ≠ (v482 : Value).ownBlock ∧ some k_ ≠ (u11 : Value).ownBlock)) (by (with_reducible repeat (first | apply Kd.R_alloc | apply Kd.R_drewN | apply Kd.R_drew)); exact Kd.R_mono HO_8.out (fun _ hk => ⟨⟨hk.1, hk.2.2⟩, hk.2.1⟩)) hg hat); have n1_ := Aside0.mk (Kd.R_after (ok := (fun k_ => some k_ ≠ (v476 : Value).ownBlock ∧ some k_ ≠ (u11 : Value).ownBlock)) (by (with_reducible repeat (first | apply Kd.R_alloc | apply Kd.R_drewN | apply Kd.R_drew)); exact Kd.R_mono HO_9.out (fun _ hk => ⟨⟨hk.1, hk.2.2⟩, hk.2.1⟩)) hg hat); have n2_ := Aside0.mk (Kd.R_after (ok := (fun k_ => some k_ ≠ (v476 : Value).ownBlock ∧ some k_ ≠ (v482 : Value).ownBlock)) (by (with_reducible repeat (first | apply Kd.R_alloc | apply Kd.R_drewN | apply Kd.R_drew)); exact Kd.R_mono HO_11.out (fun _ hk => ⟨⟨hk.1, hk.2.1⟩, hk.2.2⟩)) hg hat); have n3_ := Aside0.mk (hb); have n4_ := Aside0.mk (ho); clear HO_8; clear HO_9; clear HO_11; clear HB; clear HO_10; have HO_8 := n0_; have HO_9 := n1_; have HO_11 := n2_; have HB := n3_; have HO487 := n4_; clear n0_ n1_ n2_ n3_ n4_; clear ho hb hg hat; have p488 : 0 ≤ ((ji26) : Int) := of_decide_eq_true (by first | (with_reducible assumption) | assumption); have q488 : (ji26) < (l2.length : Int) := of_decide_eq_true (by first | (with_reducible assumption) | assumption); obtain ⟨ad488, e488, hx488_0⟩ := Kd.at_int HR2.out (ji26) p488 q488; obtain rfl : ad484 = ad488 := (by injection e488); replace hx488_0 := (HB.out.cell (World.block_lt_of_cell? w _ hx488_0)).trans hx488_0; replace p488 := eq_true p488; replace q488 := eq_true q488) | ((with_reducible refine gate_builtin (b := .append) (xs := #[.tmp 53, .tmp 63]) rfl ?_); (try (refine gate_guard (by rfl) ?_; dsimp only)); at_builtin; refine Kd.R_append (Kd.int .i64) (w0 := w) w.heap.size rfl (.tmp 53) (.tmp 63) 35 3 (.int .i64 0) 8 rfl Try.underlying35 info3 rfl (by decide) (by omega) u11 x11_2 (wrap64 (rd l2 (ji26))) [.int .i64 (wrap64 (rd l2 (ji26)))] (fun k_ => some k_ ≠ (v476 : Value).ownBlock ∧ some k_ ≠ (v482 : Value).ownBlock ∧ some k_ ≠ (v486 : Value).ownBlock) (fun _ => False) rfl rfl ?aP (fun _ hk => hk.elim) ?aF ?aO ?aB ?aS ?aL ?_; (case aP => exact rfl); (case aB => exact (by repeat (with_reducible first | exact HB.out | apply below_alloc | apply pw_below_drewN | apply below_drew1))); (case aF => exact (fun k_ hk => ⟨Kd.fresh' (Kd.R_lt (by (with_reducible repeat (first | apply Kd.R_alloc | apply Kd.R_drewN | apply Kd.R_drew)); exact HO_8.out)) k_ hk, Kd.fresh' (Kd.R_lt (by (with_reducible repeat (first | apply Kd.R_alloc | apply Kd.R_drewN | apply Kd.R_drew)); exact HO_9.out)) k_ hk, Kd.fresh' (Kd.R_lt (by (with_reducible repeat (first | apply Kd.R_alloc | apply Kd.R_drewN | apply Kd.R_drew)); exact HO487.out)) k_ hk⟩)); (case aO => exact (by (with_reducible repeat (first | apply Kd.R_alloc | apply Kd.R_drewN | apply Kd.R_drew)); exact Kd.R_mono HO_11.out (fun _ hk => ⟨hk.1.1, ⟨hk.1.2, hk.2⟩⟩))); (case aS => exact bsz_); (case aL => have := LMc29.out; omega); intro v490 w31 ho hb hg hat; rw [← Ny489.out] at ho; have n0_ := Aside0.mk (Kd.R_after (ok := (fun k_ => some k_ ≠ (v482 : Value).ownBlock ∧ some k_ ≠ (v486 : Value).ownBlock)) (by (with_reducible repeat (first | apply Kd.R_alloc | apply Kd.R_drewN | apply Kd.R_drew)); exact Kd.R_mono HO_8.out (fun _ hk => ⟨⟨hk.1.1, hk.2⟩, hk.1.2⟩)) hg hat); have n1_ := Aside0.mk (Kd.R_after (ok := (fun k_ => some k_ ≠ (v476 : Value).ownBlock ∧ some k_ ≠ (v486 : Value).ownBlock)) (by (with_reducible repeat (first | apply Kd.R_alloc | apply Kd.R_drewN | apply Kd.R_drew)); exact Kd.R_mono HO_9.out (fun _ hk => ⟨⟨hk.1.1, hk.2⟩, hk.1.2⟩)) hg hat); have n2_ := Aside0.mk (Kd.R_after (ok := (fun k_ => some k_ ≠ (v476 : Value).ownBlock ∧ some k_ ≠ (v482 : Value).ownBlock)) (by (with_reducible repeat (first | apply Kd.R_alloc | apply Kd.R_drewN | apply Kd.R_drew)); exact Kd.R_mono HO487.out (fun _ hk => ⟨⟨hk.1, hk.2.1⟩, hk.2.2⟩)) hg hat); have n3_ := Aside0.mk (hb); have n4_ := Aside0.mk (ho); clear HO_8; clear HO_9; clear HO487; clear HB; clear HO_11; have HO_8 := n0_; have HO_9 := n1_; have HO487 := n2_; have HB := n3_; have HO491 := n4_; clear n0_ n1_ n2_ n3_ n4_; clear ho hb hg hat))
                     go_roundg k2
                     case measure => have := HJ3.out; have := HK2.out; omega
                     case rel => exact ⟨(y485), (y489), (wrap64 (x42_2 + 1)), (by first | rfl | (simp; done) | (simp [*]; done)), H', ⟨by have := HJ3.out; have := HK2.out; omega⟩, ⟨by (with_reducible repeat (first | apply Kd.R_alloc | apply Kd.R_drewN | apply Kd.R_drew)); exact Kd.R_mono HO_8.out (fun _ hk => ⟨hk.1.1, ⟨hk.1.2, hk.2⟩⟩)⟩, ⟨by (with_reducible repeat (first | apply Kd.R_alloc | apply Kd.R_drewN | apply Kd.R_drew)); exact Kd.R_mono HO_9.out (fun _ hk => ⟨hk.1.1, ⟨hk.1.2, hk.2⟩⟩)⟩, ⟨by (with_reducible repeat (first | apply Kd.R_alloc | apply Kd.R_drewN | apply Kd.R_drew)); exact Kd.R_mono HO487.out (fun _ hk => ⟨hk.1.1, ⟨hk.1.2, hk.2⟩⟩)⟩, ⟨by (with_reducible repeat (first | apply Kd.R_alloc | apply Kd.R_drewN | apply Kd.R_drew)); exact HO491.out⟩, ⟨by repeat (with_reducible first | exact HB.out | apply below_alloc | apply pw_below_drewN | apply below_drew1)⟩⟩
                   · rw [if_neg c29] at H
                     exact absurd H (by simp)
                 · rw [if_neg c28] at H
                   exact absurd H (by simp)
               · rw [if_neg c27] at H
                 exact absurd H (by simp)
             · rw [if_neg c25] at H
               exact absurd H (by simp)
           · rw [if_neg c24] at H
             exact absurd H (by simp)
         · rw [if_neg c23] at H
           exact absurd H (by simp)
       · rw [if_neg c22] at H
         have c22b0 : decide (x42_2 < (l2.length : Int)) = false := decide_eq_false c22
         clear c22
         by_cases c32 : (t475.length : Int) = 1
         · rw [if_pos c32] at H
           have c32b0 : ((t475.length : Int) == 1) = true := beq_iff_eq.mpr c32
           have c32b1 : ((t475.length : Int) != 1) = false := bne_eq_false_iff_eq.mpr c32
           clear c32
           by_cases c33 : 0 < (t475.length : Int)
           · rw [if_pos c33] at H
             have c33b0 : decide (0 < (t475.length : Int)) = true := decide_eq_true c33
             have c33b1 : decide (0 < t475.length) = true := decide_eq_true (by omega)
             clear c33
             by_cases c34 : (rd t475 0) ≥ 0
             · rw [if_pos c34] at H
               have c34b0 : decide (0 ≤ (rd t475 0)) = true := decide_eq_true c34
               clear c34
               by_cases c35 : (rd t475 0) < (l0.length : Int)
               · rw [if_pos c35] at H
                 have c35b0 : decide ((rd t475 0) < (l0.length : Int)) = true := decide_eq_true c35
                 clear c35
                 replace H := Option.bind_eq_some_iff.mp H
                 obtain ⟨t494, A360, H⟩ := H
                 replace H : (if t494 = true then ((stripe_Of.f k2 l0 ([] : List Int)).bind fun t495 => (if (t495.length : Int) = 0 then ((stripe_Of.f k2 l0 x10_2).bind fun t498 => ((stripe_Of.f k2 l0 x11_2).bind fun t501 => ((handshakerref03_Numbers.f k2 t498 t501).bind fun t504 => (if t504 = true then ((stripe_Of.f k2 l0 x10_2).bind fun t505 => (if (t505.length : Int) ≤ (mn (l0.length : Int) (x10_2.length : Int)) then ((handshakerlaw03_awake.f k2).bind fun t508 => (some t508)) else (some false))) else (some false))))) else (some false))) else (some false)) = some r := H
                 have A36 := Aside0.mk A360
                 clear A360
                 by_cases c37 : t494 = true
                 · subst c37
                   have H1 : ((stripe_Of.f k2 l0 ([] : List Int)).bind fun t495 => (if (t495.length : Int) = 0 then ((stripe_Of.f k2 l0 x10_2).bind fun t498 => ((stripe_Of.f k2 l0 x11_2).bind fun t501 => ((handshakerref03_Numbers.f k2 t498 t501).bind fun t504 => (if t504 = true then ((stripe_Of.f k2 l0 x10_2).bind fun t505 => (if (t505.length : Int) ≤ (mn (l0.length : Int) (x10_2.length : Int)) then ((handshakerlaw03_awake.f k2).bind fun t508 => (some t508)) else (some false))) else (some false))))) else (some false))) = some r := by rw [if_pos rfl] at H; exact H
                   clear H
                   have H := H1
                   clear H1
                   replace H := Option.bind_eq_some_iff.mp H
                   obtain ⟨t495, A380, H⟩ := H
                   replace H : (if (t495.length : Int) = 0 then ((stripe_Of.f k2 l0 x10_2).bind fun t498 => ((stripe_Of.f k2 l0 x11_2).bind fun t501 => ((handshakerref03_Numbers.f k2 t498 t501).bind fun t504 => (if t504 = true then ((stripe_Of.f k2 l0 x10_2).bind fun t505 => (if (t505.length : Int) ≤ (mn (l0.length : Int) (x10_2.length : Int)) then ((handshakerlaw03_awake.f k2).bind fun t508 => (some t508)) else (some false))) else (some false))))) else (some false)) = some r := H
                   have A38 := Aside0.mk A380
                   clear A380
                   by_cases c39 : (t495.length : Int) = 0
                   · rw [if_pos c39] at H
                     have c39b0 : ((t495.length : Int) == 0) = true := beq_iff_eq.mpr c39
                     have c39b1 : ((t495.length : Int) != 0) = false := bne_eq_false_iff_eq.mpr c39
                     clear c39
                     replace H := Option.bind_eq_some_iff.mp H
                     obtain ⟨t498, A400, H⟩ := H
                     replace H : ((stripe_Of.f k2 l0 x11_2).bind fun t501 => ((handshakerref03_Numbers.f k2 t498 t501).bind fun t504 => (if t504 = true then ((stripe_Of.f k2 l0 x10_2).bind fun t505 => (if (t505.length : Int) ≤ (mn (l0.length : Int) (x10_2.length : Int)) then ((handshakerlaw03_awake.f k2).bind fun t508 => (some t508)) else (some false))) else (some false)))) = some r := H
                     have A40 := Aside0.mk A400
                     clear A400
                     replace H := Option.bind_eq_some_iff.mp H
                     obtain ⟨t501, A410, H⟩ := H
                     replace H : ((handshakerref03_Numbers.f k2 t498 t501).bind fun t504 => (if t504 = true then ((stripe_Of.f k2 l0 x10_2).bind fun t505 => (if (t505.length : Int) ≤ (mn (l0.length : Int) (x10_2.length : Int)) then ((handshakerlaw03_awake.f k2).bind fun t508 => (some t508)) else (some false))) else (some false))) = some r := H
                     have A41 := Aside0.mk A410
                     clear A410
                     replace H := Option.bind_eq_some_iff.mp H
                     obtain ⟨t504, A420, H⟩ := H
                     replace H : (if t504 = true then ((stripe_Of.f k2 l0 x10_2).bind fun t505 => (if (t505.length : Int) ≤ (mn (l0.length : Int) (x10_2.length : Int)) then ((handshakerlaw03_awake.f k2).bind fun t508 => (some t508)) else (some false))) else (some false)) = some r := H
                     have A42 := Aside0.mk A420
                     clear A420
                     by_cases c43 : t504 = true
                     · subst c43
                       have H1 : ((stripe_Of.f k2 l0 x10_2).bind fun t505 => (if (t505.length : Int) ≤ (mn (l0.length : Int) (x10_2.length : Int)) then ((handshakerlaw03_awake.f k2).bind fun t508 => (some t508)) else (some false))) = some r := by rw [if_pos rfl] at H; exact H
                       clear H
                       have H := H1
                       clear H1
                       replace H := Option.bind_eq_some_iff.mp H
                       obtain ⟨t505, A440, H⟩ := H
                       replace H : (if (t505.length : Int) ≤ (mn (l0.length : Int) (x10_2.length : Int)) then ((handshakerlaw03_awake.f k2).bind fun t508 => (some t508)) else (some false)) = some r := H
                       have A44 := Aside0.mk A440
                       clear A440
                       obtain ⟨ji45, hji45⟩ : ∃ j_ : Int, (mn (l0.length : Int) (x10_2.length : Int)) = j_ := ⟨_, rfl⟩
                       replace H : (if (t505.length : Int) ≤ (ji45) then ((handshakerlaw03_awake.f k2).bind fun t508 => (some t508)) else (some false)) = some r := by first | (rw [hji45] at H; exact H) | (simp only [hji45] at H ⊢; exact H)
                       (try rw [hji45] at A36)
                       (try rw [hji45] at A38)
                       (try rw [hji45] at A40)
                       (try rw [hji45] at A41)
                       (try rw [hji45] at A42)
                       (try rw [hji45] at A44)
                       have hji45_ : (if (x10_2.length : Int) < (l0.length : Int) then (x10_2.length : Int) else (l0.length : Int)) = ji45 := hji45
                       by_cases c46 : (t505.length : Int) ≤ (ji45)
                       · rw [if_pos c46] at H
                         have c46b0 : decide ((t505.length : Int) ≤ (ji45)) = true := decide_eq_true c46
                         clear c46
                         replace H := Option.bind_eq_some_iff.mp H
                         obtain ⟨t508, A470, H⟩ := H
                         replace H : (some t508) = some r := H
                         have A47 := Aside0.mk A470
                         clear A470
                         obtain rfl := Option.some.inj H
                         obtain ⟨Ao48, co48, eo48⟩ := Kd.R_slice HO_8.out
                         subst eo48
                         have p492 : 0 ≤ (0 : Int) := (by omega)
                         have q492 : 0 < (t475.length : Int) := of_decide_eq_true (by first | (with_reducible assumption) | assumption)
                         obtain ⟨ad492, e492, hx492_0⟩ := Kd.at_int (Kd.R_reads' HO_8.out).2.2 0 p492 q492
                         cases e492
                         have qi492 : (0 < t475.length) = True := eq_true (by omega)
                         (try rw [show ((0 : Int)).toNat = 0 from rfl] at hx492_0)
                         (try rw [Addr.add_zero'] at hx492_0)
                         replace p492 := eq_true p492
                         replace q492 := eq_true q492
                         have p493 : 0 ≤ (0 : Int) := (by omega)
                         have q493 : 0 < (t475.length : Int) := of_decide_eq_true (by first | (with_reducible assumption) | assumption)
                         obtain ⟨ad493, e493, hx493_0⟩ := Kd.at_int (Kd.R_reads' HO_8.out).2.2 0 p493 q493
                         obtain rfl : ad492 = ad493 := (by injection e493)
                         have qi493 : (0 < t475.length) = True := eq_true (by omega)
                         (try rw [show ((0 : Int)).toNat = 0 from rfl] at hx493_0)
                         (try rw [Addr.add_zero'] at hx493_0)
                         replace p493 := eq_true p493
                         replace q493 := eq_true q493
                         obtain ⟨Ao49, co49, eo49⟩ := Kd.R_slice HO_9.out
                         subst eo49
                         go_wp2_with (first | (go_at_call 24; (with_reducible refine (handshakerref03_Numbers.calls k2 _ _ t475 _ _ t481 true _ ?side1 ?side2 ?side3 ?side4 A36.out).mono ?_); (case side1 => repeat (first | exact (Kd.R_reads' HO_8.out).2.2 | with_reducible first | refine Kd.C_alloc ?_ _ | refine Kd.C_drewN ?_ _ | refine Kd.C_drew ?_)); (case side2 => exact (Kd.R_reads' HO_8.out).2.1); (case side3 => repeat (first | exact (Kd.R_reads' HO_9.out).2.2 | with_reducible first | refine Kd.C_alloc ?_ _ | refine Kd.C_drewN ?_ _ | refine Kd.C_drew ?_)); (case side4 => exact (Kd.R_reads' HO_9.out).2.1); rintro e w' ⟨rfl, ⟨nd, rfl⟩⟩) | (go_at_call 31; refine calls_of_args (args' := #[.slice A0 l0.length c0, .slice none 0 0]) (by first | done | rfl) ?_; (refine (stripe_Of.calls k2 _ _ l0 _ _ ([] : List Int) t495 _ ?side1 ?side2 ?side3 ?side4 A38.out).mono ?_); (case side1 => repeat (first | exact (Kd.C_below HR0.out (by repeat (with_reducible first | exact HB.out | apply below_alloc | apply pw_below_drewN | apply below_drew1))) | with_reducible first | refine Kd.C_alloc ?_ _ | refine Kd.C_drewN ?_ _ | refine Kd.C_drew ?_)); (case side2 => exact HC0.out); (case side3 => exact Kd.C_nil _ _); (case side4 => exact Nat.le_refl _); rintro e w50 ⟨v496, rfl, ho0, hb⟩; have n0_ := Aside0.mk (Kd.R_elder' (by (with_reducible repeat (first | apply Kd.R_alloc | apply Kd.R_drewN | apply Kd.R_drew)); exact HO_8.out) (Kd.R_base ho0) hb); have n1_ := Aside0.mk (Kd.R_elder' (by (with_reducible repeat (first | apply Kd.R_alloc | apply Kd.R_drewN | apply Kd.R_drew)); exact HO_9.out) (Kd.R_base ho0) hb); have n2_ := Aside0.mk (Kd.R_elder' (by (with_reducible repeat (first | apply Kd.R_alloc | apply Kd.R_drewN | apply Kd.R_drew)); exact HO_10.out) (Kd.R_base ho0) hb); have n3_ := Aside0.mk (Kd.R_elder' (by (with_reducible repeat (first | apply Kd.R_alloc | apply Kd.R_drewN | apply Kd.R_drew)); exact HO_11.out) (Kd.R_base ho0) hb); have n4_ := Aside0.mk (Kd.R_lower (Kd.R_new' (Kd.R_new' (Kd.R_new' (Kd.R_new' ho0 (Kd.R_lt (by (with_reducible repeat (first | apply Kd.R_alloc | apply Kd.R_drewN | apply Kd.R_drew)); exact HO_8.out))) (Kd.R_lt (by (with_reducible repeat (first | apply Kd.R_alloc | apply Kd.R_drewN | apply Kd.R_drew)); exact HO_9.out))) (Kd.R_lt (by (with_reducible repeat (first | apply Kd.R_alloc | apply Kd.R_drewN | apply Kd.R_drew)); exact HO_10.out))) (Kd.R_lt (by (with_reducible repeat (first | apply Kd.R_alloc | apply Kd.R_drewN | apply Kd.R_drew)); exact HO_11.out))) bsz_); have n5_ := Aside0.mk (bst_ hb); clear HO_8; clear HO_9; clear HO_10; clear HO_11; clear HB; have HO_8 := n0_; have HO_9 := n1_; have HO_10 := n2_; have HO_11 := n3_; have HO497 := n4_; have HB := n5_; clear n0_ n1_ n2_ n3_ n4_ n5_; (try clear hb); (try clear hb2); (try clear hk); (try clear hi); (try clear ho0); obtain ⟨Ao51, co51, eo51⟩ := Kd.R_slice HO497.out; subst eo51; obtain ⟨Ao52, co52, eo52⟩ := Kd.R_slice HO_10.out; subst eo52) | (go_at_call 31; (with_reducible refine (stripe_Of.calls k2 _ _ l0 _ _ x10_2 t498 _ ?side1 ?side2 ?side3 ?side4 A40.out).mono ?_); (case side1 => repeat (first | exact (Kd.C_below HR0.out HB.out) | with_reducible first | refine Kd.C_alloc ?_ _ | refine Kd.C_drewN ?_ _ | refine Kd.C_drew ?_)); (case side2 => exact HC0.out); (case side3 => repeat (first | exact (Kd.R_reads' HO_10.out).2.2 | with_reducible first | refine Kd.C_alloc ?_ _ | refine Kd.C_drewN ?_ _ | refine Kd.C_drew ?_)); (case side4 => exact (Kd.R_reads' HO_10.out).2.1); rintro e w53 ⟨v499, rfl, ho0, hb⟩; have n0_ := Aside0.mk (Kd.R_elder' (by (with_reducible repeat (first | apply Kd.R_alloc | apply Kd.R_drewN | apply Kd.R_drew)); exact HO_8.out) (Kd.R_base ho0) hb); have n1_ := Aside0.mk (Kd.R_elder' (by (with_reducible repeat (first | apply Kd.R_alloc | apply Kd.R_drewN | apply Kd.R_drew)); exact HO_9.out) (Kd.R_base ho0) hb); have n2_ := Aside0.mk (Kd.R_elder' (by (with_reducible repeat (first | apply Kd.R_alloc | apply Kd.R_drewN | apply Kd.R_drew)); exact HO_10.out) (Kd.R_base ho0) hb); have n3_ := Aside0.mk (Kd.R_elder' (by (with_reducible repeat (first | apply Kd.R_alloc | apply Kd.R_drewN | apply Kd.R_drew)); exact HO_11.out) (Kd.R_base ho0) hb); have n4_ := Aside0.mk (Kd.R_elder' (by (with_reducible repeat (first | apply Kd.R_alloc | apply Kd.R_drewN | apply Kd.R_drew)); exact HO497.out) (Kd.R_base ho0) hb); have n5_ := Aside0.mk (Kd.R_lower (Kd.R_new' (Kd.R_new' (Kd.R_new' (Kd.R_new' (Kd.R_new' ho0 (Kd.R_lt (by (with_reducible repeat (first | apply Kd.R_alloc | apply Kd.R_drewN | apply Kd.R_drew)); exact HO_8.out))) (Kd.R_lt (by (with_reducible repeat (first | apply Kd.R_alloc | apply Kd.R_drewN | apply Kd.R_drew)); exact HO_9.out))) (Kd.R_lt (by (with_reducible repeat (first | apply Kd.R_alloc | apply Kd.R_drewN | apply Kd.R_drew)); exact HO_10.out))) (Kd.R_lt (by (with_reducible repeat (first | apply Kd.R_alloc | apply Kd.R_drewN | apply Kd.R_drew)); exact HO_11.out))) (Kd.R_lt (by (with_reducible repeat (first | apply Kd.R_alloc | apply Kd.R_drewN | apply Kd.R_drew)); exact HO497.out))) bsz_); have n6_ := Aside0.mk (bst_ hb); clear HO_8; clear HO_9; clear HO_10; clear HO_11; clear HO497; clear HB; have HO_8 := n0_; have HO_9 := n1_; have HO_10 := n2_; have HO_11 := n3_; have HO497 := n4_; have HO500 := n5_; have HB := n6_; clear n0_ n1_ n2_ n3_ n4_ n5_ n6_; (try clear hb); (try clear hb2); (try clear hk); (try clear hi); (try clear ho0); obtain ⟨Ao54, co54, eo54⟩ := Kd.R_slice HO_11.out; subst eo54) | (go_at_call 31; (with_reducible refine (stripe_Of.calls k2 _ _ l0 _ _ x11_2 t501 _ ?side1 ?side2 ?side3 ?side4 A41.out).mono ?_); (case side1 => repeat (first | exact (Kd.C_below HR0.out HB.out) | with_reducible first | refine Kd.C_alloc ?_ _ | refine Kd.C_drewN ?_ _ | refine Kd.C_drew ?_)); (case side2 => exact HC0.out); (case side3 => repeat (first | exact (Kd.R_reads' HO_11.out).2.2 | with_reducible first | refine Kd.C_alloc ?_ _ | refine Kd.C_drewN ?_ _ | refine Kd.C_drew ?_)); (case side4 => exact (Kd.R_reads' HO_11.out).2.1); rintro e w55 ⟨v502, rfl, ho0, hb⟩; have n0_ := Aside0.mk (Kd.R_elder' (by (with_reducible repeat (first | apply Kd.R_alloc | apply Kd.R_drewN | apply Kd.R_drew)); exact HO_8.out) (Kd.R_base ho0) hb); have n1_ := Aside0.mk (Kd.R_elder' (by (with_reducible repeat (first | apply Kd.R_alloc | apply Kd.R_drewN | apply Kd.R_drew)); exact HO_9.out) (Kd.R_base ho0) hb); have n2_ := Aside0.mk (Kd.R_elder' (by (with_reducible repeat (first | apply Kd.R_alloc | apply Kd.R_drewN | apply Kd.R_drew)); exact HO_10.out) (Kd.R_base ho0) hb); have n3_ := Aside0.mk (Kd.R_elder' (by (with_reducible repeat (first | apply Kd.R_alloc | apply Kd.R_drewN | apply Kd.R_drew)); exact HO_11.out) (Kd.R_base ho0) hb); have n4_ := Aside0.mk (Kd.R_elder' (by (with_reducible repeat (first | apply Kd.R_alloc | apply Kd.R_drewN | apply Kd.R_drew)); exact HO497.out) (Kd.R_base ho0) hb); have n5_ := Aside0.mk (Kd.R_elder' (by (with_reducible repeat (first | apply Kd.R_alloc | apply Kd.R_drewN | apply Kd.R_drew)); exact HO500.out) (Kd.R_base ho0) hb); have n6_ := Aside0.mk (Kd.R_lower (Kd.R_new' (Kd.R_new' (Kd.R_new' (Kd.R_new' (Kd.R_new' (Kd.R_new' ho0 (Kd.R_lt (by (with_reducible repeat (first | apply Kd.R_alloc | apply Kd.R_drewN | apply Kd.R_drew)); exact HO_8.out))) (Kd.R_lt (by (with_reducible repeat (first | apply Kd.R_alloc | apply Kd.R_drewN | apply Kd.R_drew)); exact HO_9.out))) (Kd.R_lt (by (with_reducible repeat (first | apply Kd.R_alloc | apply Kd.R_drewN | apply Kd.R_drew)); exact HO_10.out))) (Kd.R_lt (by (with_reducible repeat (first | apply Kd.R_alloc | apply Kd.R_drewN | apply Kd.R_drew)); exact HO_11.out))) (Kd.R_lt (by (with_reducible repeat (first | apply Kd.R_alloc | apply Kd.R_drewN | apply Kd.R_drew)); exact HO497.out))) (Kd.R_lt (by (with_reducible repeat (first | apply Kd.R_alloc | apply Kd.R_drewN | apply Kd.R_drew)); exact HO500.out))) bsz_); have n7_ := Aside0.mk (bst_ hb); clear HO_8; clear HO_9; clear HO_10; clear HO_11; clear HO497; clear HO500; clear HB; have HO_8 := n0_; have HO_9 := n1_; have HO_10 := n2_; have HO_11 := n3_; have HO497 := n4_; have HO500 := n5_; have HO503 := n6_; have HB := n7_; clear n0_ n1_ n2_ n3_ n4_ n5_ n6_ n7_; (try clear hb); (try clear hb2); (try clear hk); (try clear hi); (try clear ho0); obtain ⟨Ao56, co56, eo56⟩ := Kd.R_slice HO500.out; subst eo56; obtain ⟨Ao57, co57, eo57⟩ := Kd.R_slice HO503.out; subst eo57) | (go_at_call 24; (with_reducible refine (handshakerref03_Numbers.calls k2 _ _ t498 _ _ t501 true _ ?side1 ?side2 ?side3 ?side4 A42.out).mono ?_); (case side1 => repeat (first | exact (Kd.R_reads' HO500.out).2.2 | with_reducible first | refine Kd.C_alloc ?_ _ | refine Kd.C_drewN ?_ _ | refine Kd.C_drew ?_)); (case side2 => exact (Kd.R_reads' HO500.out).2.1); (case side3 => repeat (first | exact (Kd.R_reads' HO503.out).2.2 | with_reducible first | refine Kd.C_alloc ?_ _ | refine Kd.C_drewN ?_ _ | refine Kd.C_drew ?_)); (case side4 => exact (Kd.R_reads' HO503.out).2.1); rintro e w' ⟨rfl, ⟨nd, rfl⟩⟩) | (go_at_call 31; (with_reducible refine (stripe_Of.calls k2 _ _ l0 _ _ x10_2 t505 _ ?side1 ?side2 ?side3 ?side4 A44.out).mono ?_); (case side1 => repeat (first | exact (Kd.C_below HR0.out (by repeat (with_reducible first | exact HB.out | apply below_alloc | apply pw_below_drewN | apply below_drew1))) | with_reducible first | refine Kd.C_alloc ?_ _ | refine Kd.C_drewN ?_ _ | refine Kd.C_drew ?_)); (case side2 => exact HC0.out); (case side3 => repeat (first | exact (Kd.R_reads' HO_10.out).2.2 | with_reducible first | refine Kd.C_alloc ?_ _ | refine Kd.C_drewN ?_ _ | refine Kd.C_drew ?_)); (case side4 => exact (Kd.R_reads' HO_10.out).2.1); rintro e w58 ⟨v506, rfl, ho0, hb⟩; have n0_ := Aside0.mk (Kd.R_elder' (by (with_reducible repeat (first | apply Kd.R_alloc | apply Kd.R_drewN | apply Kd.R_drew)); exact HO_8.out) (Kd.R_base ho0) hb); have n1_ := Aside0.mk (Kd.R_elder' (by (with_reducible repeat (first | apply Kd.R_alloc | apply Kd.R_drewN | apply Kd.R_drew)); exact HO_9.out) (Kd.R_base ho0) hb); have n2_ := Aside0.mk (Kd.R_elder' (by (with_reducible repeat (first | apply Kd.R_alloc | apply Kd.R_drewN | apply Kd.R_drew)); exact HO_10.out) (Kd.R_base ho0) hb); have n3_ := Aside0.mk (Kd.R_elder' (by (with_reducible repeat (first | apply Kd.R_alloc | apply Kd.R_drewN | apply Kd.R_drew)); exact HO_11.out) (Kd.R_base ho0) hb); have n4_ := Aside0.mk (Kd.R_elder' (by (with_reducible repeat (first | apply Kd.R_alloc | apply Kd.R_drewN | apply Kd.R_drew)); exact HO497.out) (Kd.R_base ho0) hb); have n5_ := Aside0.mk (Kd.R_elder' (by (with_reducible repeat (first | apply Kd.R_alloc | apply Kd.R_drewN | apply Kd.R_drew)); exact HO500.out) (Kd.R_base ho0) hb); have n6_ := Aside0.mk (Kd.R_elder' (by (with_reducible repeat (first | apply Kd.R_alloc | apply Kd.R_drewN | apply Kd.R_drew)); exact HO503.out) (Kd.R_base ho0) hb); have n7_ := Aside0.mk (Kd.R_lower (Kd.R_new' (Kd.R_new' (Kd.R_new' (Kd.R_new' (Kd.R_new' (Kd.R_new' (Kd.R_new' ho0 (Kd.R_lt (by (with_reducible repeat (first | apply Kd.R_alloc | apply Kd.R_drewN | apply Kd.R_drew)); exact HO_8.out))) (Kd.R_lt (by (with_reducible repeat (first | apply Kd.R_alloc | apply Kd.R_drewN | apply Kd.R_drew)); exact HO_9.out))) (Kd.R_lt (by (with_reducible repeat (first | apply Kd.R_alloc | apply Kd.R_drewN | apply Kd.R_drew)); exact HO_10.out))) (Kd.R_lt (by (with_reducible repeat (first | apply Kd.R_alloc | apply Kd.R_drewN | apply Kd.R_drew)); exact HO_11.out))) (Kd.R_lt (by (with_reducible repeat (first | apply Kd.R_alloc | apply Kd.R_drewN | apply Kd.R_drew)); exact HO497.out))) (Kd.R_lt (by (with_reducible repeat (first | apply Kd.R_alloc | apply Kd.R_drewN | apply Kd.R_drew)); exact HO500.out))) (Kd.R_lt (by (with_reducible repeat (first | apply Kd.R_alloc | apply Kd.R_drewN | apply Kd.R_drew)); exact HO503.out))) bsz_); have n8_ := Aside0.mk (bst_ hb); clear HO_8; clear HO_9; clear HO_10; clear HO_11; clear HO497; clear HO500; clear HO503; clear HB; have HO_8 := n0_; have HO_9 := n1_; have HO_10 := n2_; have HO_11 := n3_; have HO497 := n4_; have HO500 := n5_; have HO503 := n6_; have HO507 := n7_; have HB := n8_; clear n0_ n1_ n2_ n3_ n4_ n5_ n6_ n7_ n8_; (try clear hb); (try clear hb2); (try clear hk); (try clear hi); (try clear ho0); obtain ⟨Ao59, co59, eo59⟩ := Kd.R_slice HO507.out; subst eo59) | (go_at_call 33; (with_reducible refine (handshakerlaw03_awake.calls k2  t508 _ A47.out).mono ?_); rintro e w60 ⟨rfl, hb⟩; have n0_ := Aside0.mk (Kd.R_below (by (with_reducible repeat (first | apply Kd.R_alloc | apply Kd.R_drewN | apply Kd.R_drew)); exact HO_8.out) hb); have n1_ := Aside0.mk (Kd.R_below (by (with_reducible repeat (first | apply Kd.R_alloc | apply Kd.R_drewN | apply Kd.R_drew)); exact HO_9.out) hb); have n2_ := Aside0.mk (Kd.R_below (by (with_reducible repeat (first | apply Kd.R_alloc | apply Kd.R_drewN | apply Kd.R_drew)); exact HO_10.out) hb); have n3_ := Aside0.mk (Kd.R_below (by (with_reducible repeat (first | apply Kd.R_alloc | apply Kd.R_drewN | apply Kd.R_drew)); exact HO_11.out) hb); have n4_ := Aside0.mk (Kd.R_below (by (with_reducible repeat (first | apply Kd.R_alloc | apply Kd.R_drewN | apply Kd.R_drew)); exact HO497.out) hb); have n5_ := Aside0.mk (Kd.R_below (by (with_reducible repeat (first | apply Kd.R_alloc | apply Kd.R_drewN | apply Kd.R_drew)); exact HO500.out) hb); have n6_ := Aside0.mk (Kd.R_below (by (with_reducible repeat (first | apply Kd.R_alloc | apply Kd.R_drewN | apply Kd.R_drew)); exact HO503.out) hb); have n7_ := Aside0.mk (Kd.R_below (by (with_reducible repeat (first | apply Kd.R_alloc | apply Kd.R_drewN | apply Kd.R_drew)); exact HO507.out) hb); have n8_ := Aside0.mk (bst_ hb); clear HO_8; clear HO_9; clear HO_10; clear HO_11; clear HO497; clear HO500; clear HO503; clear HO507; clear HB; have HO_8 := n0_; have HO_9 := n1_; have HO_10 := n2_; have HO_11 := n3_; have HO497 := n4_; have HO500 := n5_; have HO503 := n6_; have HO507 := n7_; have HB := n8_; clear n0_ n1_ n2_ n3_ n4_ n5_ n6_ n7_ n8_; (try clear hb); (try clear hb2); (try clear hk); (try clear hi)))
                         all_goals first | exact ((handshakerlaw03_StripeCells.mnno hji45_ c46b0).1 (by first | assumption | omega) (by first | assumption | omega)).elim | exact ((handshakerlaw03_StripeCells.mnno hji45_ c46b0).2 (by first | assumption | omega) (by first | assumption | omega)).elim | (go_ret; exact ⟨by first | rfl | (simp [errW_none, errW_some] <;> rfl) | (simp only [← hji45]; first | rfl | (simp [errW_none, errW_some] <;> rfl)) | (simp [*, errW_none, errW_some] <;> rfl), by repeat (with_reducible first | exact HB.out | apply below_alloc | apply pw_below_drewN | apply below_drew1)⟩)
                       · rw [if_neg c46] at H
                         have c46b0 : decide ((t505.length : Int) ≤ (ji45)) = false := decide_eq_false c46
                         clear c46
                         exact absurd (Option.some.inj H) (by rw [HT.out]; decide)
                     · replace c43 := Bool.eq_false_iff.mpr c43
                       subst c43
                       have H1 : (some false) = some r := by rw [if_neg (show ¬ (false = true) by decide)] at H; exact H
                       clear H
                       have H := H1
                       clear H1
                       exact absurd (Option.some.inj H) (by rw [HT.out]; decide)
                   · rw [if_neg c39] at H
                     have c39b0 : ((t495.length : Int) == 0) = false := beq_eq_false_iff_ne.mpr c39
                     have c39b1 : ((t495.length : Int) != 0) = true := bne_iff_ne.mpr c39
                     have c39b2 : ¬ (t495 = []) := fun h_ => c39 (by rw [h_]; rfl)
                     exact absurd (Option.some.inj H) (by rw [HT.out]; decide)
                 · replace c37 := Bool.eq_false_iff.mpr c37
                   subst c37
                   have H1 : (some false) = some r := by rw [if_neg (show ¬ (false = true) by decide)] at H; exact H
                   clear H
                   have H := H1
                   clear H1
                   exact absurd (Option.some.inj H) (by rw [HT.out]; decide)
               · rw [if_neg c35] at H
                 have c35b0 : decide ((rd t475 0) < (l0.length : Int)) = false := decide_eq_false c35
                 clear c35
                 exact absurd (Option.some.inj H) (by rw [HT.out]; decide)
             · rw [if_neg c34] at H
               have c34b0 : decide (0 ≤ (rd t475 0)) = false := decide_eq_false c34
               clear c34
               exact absurd (Option.some.inj H) (by rw [HT.out]; decide)
           · rw [if_neg c33] at H
             exact absurd H (by simp)
         · rw [if_neg c32] at H
           have c32b0 : ((t475.length : Int) == 1) = false := beq_eq_false_iff_ne.mpr c32
           have c32b1 : ((t475.length : Int) != 1) = true := bne_iff_ne.mpr c32
           exact absurd (Option.some.inj H) (by rw [HT.out]; decide)

/-- THE ONE PURE STATEMENT of handshakerlaw03_StripeCells. -/
def handshakerlaw03_StripeCells.Pure : Prop := ∀ (l0 : List (S67)) (a1 : Int) (l2 : List Int), l0.length ≤ maxLen → l0.length * 16 ≤ 140737488351232 → (∀ y ∈ l0, wfS67 y) → (Lit.int .u16 a1).wf = true → l2.length ≤ maxLen → l2.length * 2 ≤ 140737488351232 → (∀ y ∈ l2, (Lit.int .u16 y).wf = true) → ∃ k, handshakerlaw03_StripeCells.f k l0 a1 l2 = some true

end Go.Proofs.Ytlfmobnmohnjmaa.T
