import Derived.Test.YtncloefpjeolaaaGreatZwx0
import Derived.Test.YtncloefpjeolaaaGreatZwx3
namespace Go.Proofs.YtncloefpjeolaaaGreat.Zw
open Go.Proofs.YtncloefpjeolaaaGreat.Ho
open Go.RowKit Go.Proofs.YtncloefpjeolaaaGreatW.PrintWords Go.Proofs.YtncloefpjeolaaaGreatW.PrintLast Go.Proofs.YtncloefpjeolaaaGreatW.PrintMore
attribute [local go_sem] max2_int min2_int max_two min_two max_three min_three max_four min_four
set_option linter.unusedVariables false
set_option maxHeartbeats 80000000
set_option maxRecDepth 100000
set_option linter.unusedSimpArgs false
def term_Op_takes.j0 : Nat → Bool → Int → Int → Option (Int)
 | 0, _, _, _ => none
 | k + 1, x3, aA, bA => if x3 = true then (some 2) else (if aA = 11 then (some 1) else (some 0))
def term_Op_takes.f (k : Nat) (aA : Int) (bA : Int) : Option (Int) := if aA ≥ 4 then (term_Op_takes.j0 k (decide (aA ≤ 10)) aA bA) else (term_Op_takes.j0 k false aA bA)
theorem term_Op_takes.mono_l : ∀ k, (∀ y0 y1 y2, LeO (term_Op_takes.j0 k y0 y1 y2) (term_Op_takes.j0 (k + 1) y0 y1 y2))
 | 0 => fun _ _ _ r h => by simp [term_Op_takes.j0] at h
 | k + 1 => by
  have aA := term_Op_takes.mono_l k
  · intro y0 y1 y2
    unfold term_Op_takes.j0
    repeat' first | with_reducible first | apply aA | exact LeO.refl _ | exact LeO.none _ | refine LeO.ite ?_ ?_ | refine LeO.bind ?_ fun _ => ?_
theorem term_Op_takes.mono : ∀ a0 a1 k, LeO (term_Op_takes.f k a0 a1) (term_Op_takes.f (k + 1) a0 a1) := by
 intro a0 a1 k; have aA := term_Op_takes.mono_l k; unfold term_Op_takes.f; repeat' first | with_reducible first | apply aA | exact LeO.refl _ | exact LeO.none _ | refine LeO.ite ?_ ?_ | refine LeO.bind ?_ fun _ => ?_
theorem term_Op_takes.calls (k : Nat) (aA : Int) (cA : Int) (r : Int) (w : World) (h : term_Op_takes.f k aA cA = some r) :
 Calls Tryz.prog 90 #[.agg #[.int .i64 aA, .int .i64 cA]] w fun e w' => e = .returned (.int .i64 r) ∧ Below w.heap.size w w' := by
 have yA := Tryz.underlying57; have HB := ak (Below.refl w.heap.size w); have H : (if aA ≥ 4 then (term_Op_takes.j0 k (decide (aA ≤ 10)) aA cA) else (term_Op_takes.j0 k false aA cA)) = some r := h; clear h; have fA := ak H; clear H; (go_enter Tryz.func90, Tryz.ntmps90); (go_upto_region 1 with (first | ((with_reducible refine gd_ 1 rfl ?_); refine bx_ (N := 1) (t := 57) #[.int .i64 aA, .int .i64 cA] ?_; intro iA hg w3 hbox hb; replace bA := ak (hbox); replace gA := gw_ (w := w) hg; replace HB := ak (bst_ hb); replace tA := gA; clear hb hbox hg))); ((try simp only [Act.put, List.setIfInBounds_toArray, List.set_cons_zero, List.set_cons_succ])); go_cut [3] (fun v3 wc => ∃ (kq : Nat) (eA : Bool), v3 = .bool eA ∧ Aside0 (term_Op_takes.j0 kq eA aA cA = some r) ∧ Aside0 (kq ≤ k) ∧ Aside0 (wc.heap[iA]? = some (.cells #[.int .i64 aA, .int .i64 cA] 57 (0, 0))) ∧ Aside0 (Below w.heap.size w wc))
 case first =>
  have H := fA.out; clear fA; (by_cases c4 : aA ≥ 4); rotate_left
  · rw [if_neg c4] at H; have dA : decide (4 ≤ aA) = false := decide_eq_false c4; clear c4; ((first | rw [dA] | (simp only [i64_w, i32_w]; rw [dA]) | skip)); have H' := ak H; clear H; obtain ⟨nA, oA, rA, sA⟩ := bz2_ bA; (go_wp2); (go_meet); case rel => exact ⟨_, (false), (by first | rfl | (simp; done) | (simp [*]; done)), H', ⟨by first | omega | exact Nat.le_refl _⟩, ⟨bq_ bA⟩, ⟨bsw_⟩⟩
  rw [if_pos c4] at H; have dA : decide (4 ≤ aA) = true := decide_eq_true c4; clear c4; ((first | rw [dA] | (simp only [i64_w, i32_w]; rw [dA]) | skip)); have H' := ak H; clear H; obtain ⟨lA, mA, pA, qA⟩ := bz2_ bA; (go_wp2); (go_meet); case rel => exact ⟨_, (decide (aA ≤ 10)), (by first | rfl | (simp; done) | (simp [*]; done)), H', ⟨by first | omega | exact Nat.le_refl _⟩, ⟨bq_ bA⟩, ⟨bsw_⟩⟩
 case rest =>
  clear fA; (try clear p2); (try clear c4); (try clear dA); (try clear lA mA); (try clear nA oA); (try clear pA qA); (try clear rA sA); obtain ⟨kq, eA, rfl, HA, dB, bA, HB⟩ := hcut
  cases kq with
  | zero => exact absurd HA.out (by simp [term_Op_takes.j0])
  | succ eB =>
   have H := HA.out; clear HA; simp only [term_Op_takes.j0] at H; by_cases c7 : eA = true
   · subst c7; rw [if_pos rfl] at H; obtain rfl := Option.some.inj H; (go_wp2); (go_ret); exact eB_
   replace c7 := Bool.eq_false_iff.mpr c7; subst c7; rw [if_neg nf_] at H; (by_cases c8 : aA = 11); rotate_left
   · rw [if_neg c8] at H; have jA : (aA == 11) = false := beq_eq_false_iff_ne.mpr c8; have kA : (aA != 11) = true := bne_iff_ne.mpr c8; obtain rfl := Option.some.inj H; obtain ⟨uA, vA, wA, xA⟩ := bz2_ bA; (go_wp2); (go_ret); exact eB_
   rw [if_pos c8] at H; have jA : (aA == 11) = true := beq_iff_eq.mpr c8; have kA : (aA != 11) = false := bne_eq_false_iff_eq.mpr c8; clear c8; obtain rfl := Option.some.inj H; obtain ⟨zA, aB, bB, cB⟩ := bz2_ bA; (go_wp2); (go_ret); exact eB_
def term_Op_may.f (k : Nat) (bA : Int) (aA : Int) : Option (Bool) := if bA = 1 then ((span_Right.f aA).bind fun cA => (some cA)) else (if bA = 2 then (if aA ≥ 0 then (some (decide (aA < 64))) else (some false)) else (if bA = 3 then (if aA ≥ 0 then (some (decide (aA < 8))) else (some false)) else ((term_Op_takes.f k bA aA).bind fun dA => (if dA > 0 then (some (aA == 0)) else (some false)))))
theorem term_Op_may.mono : ∀ a0 a1 k, LeO (term_Op_may.f k a0 a1) (term_Op_may.f (k + 1) a0 a1) := by
 intro a0 a1 k; unfold term_Op_may.f; repeat' first | with_reducible first | apply term_Op_takes.mono | exact LeO.refl _ | exact LeO.none _ | refine LeO.ite ?_ ?_ | refine LeO.bind ?_ fun _ => ?_
theorem term_Op_may.calls (k : Nat) (aA : Int) (bA : Int) (r : Bool) (w : World) (h : term_Op_may.f k aA bA = some r) :
 Calls Tryz.prog 83 #[.agg #[.int .i64 aA, .int .i64 bA]] w fun e w' => e = .returned (.bool r) ∧ Below w.heap.size w w' := by
 have vB := Tryz.underlying57; have HB := ak (Below.refl w.heap.size w); have H : (if aA = 1 then ((span_Right.f bA).bind fun lA => (some lA)) else (if aA = 2 then (if bA ≥ 0 then (some (decide (bA < 64))) else (some false)) else (if aA = 3 then (if bA ≥ 0 then (some (decide (bA < 8))) else (some false)) else ((term_Op_takes.f k aA bA).bind fun gA => (if gA > 0 then (some (bA == 0)) else (some false)))))) = some r := h; clear h; by_cases c2 : aA = 1
 · rw [if_pos c2] at H; have rA : (aA == 1) = true := beq_iff_eq.mpr c2; have sA : (aA != 1) = false := bne_eq_false_iff_eq.mpr c2; clear c2; obtain ⟨lA, A3, H⟩ := bd_ H; obtain rfl := Option.some.inj H; (go_enter Tryz.func83, Tryz.ntmps83); (go_wp2_with (first | ((with_reducible refine gd_ 1 rfl ?_); refine bx_ (N := 1) (t := 57) #[.int .i64 aA, .int .i64 bA] ?_; intro fA hg w4 hbox hb; replace cA := ak (hbox); replace dA := gw_ (w := w) hg; replace HB := ak (bst_ hb); replace eA := dA; clear hb hbox hg; obtain ⟨wB, xB, aC, bC⟩ := bz2_ cA) | ((with_reducible refine gc_ 68 rfl ?_); refine gl_ (some 9) Tryz.func68 #[.int .i64 bA] ?_; (with_reducible refine (span_Right.calls bA lA _ A3.out).mono ?_); rintro e w' ⟨rfl, ⟨nd, rfl⟩⟩; refine ⟨_, rfl, ?_⟩))); (go_ret); exact eB_
 rw [if_neg c2] at H; have rA : (aA == 1) = false := beq_eq_false_iff_ne.mpr c2; have sA : (aA != 1) = true := bne_iff_ne.mpr c2; by_cases c6 : aA = 2
 · rw [if_pos c6] at H; have tA : (aA == 2) = true := beq_iff_eq.mpr c6; have uA : (aA != 2) = false := bne_eq_false_iff_eq.mpr c6; clear c6; (by_cases c7 : bA ≥ 0); rotate_left
   · rw [if_neg c7] at H; have vA : decide (0 ≤ bA) = false := decide_eq_false c7; clear c7; obtain rfl := Option.some.inj H; (go_enter Tryz.func83, Tryz.ntmps83); (go_wp2_with (first | ((with_reducible refine gd_ 1 rfl ?_); refine bx_ (N := 1) (t := 57) #[.int .i64 aA, .int .i64 bA] ?_; intro fA hg eC hbox hb; replace cA := ak (hbox); replace dA := gw_ (w := w) hg; replace HB := ak (bst_ hb); replace eA := dA; clear hb hbox hg; obtain ⟨wA, xA, jB, kB⟩ := bz2_ cA))); (go_ret); exact eB_
   rw [if_pos c7] at H; have vA : decide (0 ≤ bA) = true := decide_eq_true c7; clear c7; obtain rfl := Option.some.inj H; (go_enter Tryz.func83, Tryz.ntmps83); (go_wp2_with (first | ((with_reducible refine gd_ 1 rfl ?_); refine bx_ (N := 1) (t := 57) #[.int .i64 aA, .int .i64 bA] ?_; intro fA hg w8 hbox hb; replace cA := ak (hbox); replace dA := gw_ (w := w) hg; replace HB := ak (bst_ hb); replace eA := dA; clear hb hbox hg; obtain ⟨yB, zB, cC, dC⟩ := bz2_ cA))); (go_ret); exact eB_
 rw [if_neg c6] at H; have tA : (aA == 2) = false := beq_eq_false_iff_ne.mpr c6; have uA : (aA != 2) = true := bne_iff_ne.mpr c6; (by_cases iA : aA = 3); rotate_left
 · rw [if_neg iA] at H; have mA : (aA == 3) = false := beq_eq_false_iff_ne.mpr iA; have nA : (aA != 3) = true := bne_iff_ne.mpr iA; obtain ⟨gA, qA, H⟩ := bd_ H; (by_cases kA : gA > 0); rotate_left
   · rw [if_neg kA] at H; have pA : decide (0 < gA) = false := decide_eq_false kA; clear kA; obtain rfl := Option.some.inj H; (go_enter Tryz.func83, Tryz.ntmps83); (go_wp2_with (first | ((with_reducible refine gd_ 1 rfl ?_); refine bx_ (N := 1) (t := 57) #[.int .i64 aA, .int .i64 bA] ?_; intro fA hg kC hbox hb; replace cA := ak (hbox); replace dA := gw_ (w := w) hg; replace HB := ak (bst_ hb); replace eA := dA; clear hb hbox hg; obtain ⟨gB, iB, tB, uB⟩ := bz2_ cA) | ((with_reducible refine gc_ 90 rfl ?_); refine gl_ (some 31) Tryz.func90 #[.agg #[.int .i64 aA, .int .i64 bA]] ?_; (with_reducible refine (term_Op_takes.calls k aA bA gA _ qA.out).mono ?_); rintro e lC ⟨rfl, hb⟩; refine ⟨_, rfl, ?_⟩; replace cA := bb_ cA hb; replace HB := hs_ hb; (try clear hb)))); (go_ret); exact eB_
   rw [if_pos kA] at H; have pA : decide (0 < gA) = true := decide_eq_true kA; clear kA; obtain rfl := Option.some.inj H; (go_enter Tryz.func83, Tryz.ntmps83); (go_wp2_with (first | ((with_reducible refine gd_ 1 rfl ?_); refine bx_ (N := 1) (t := 57) #[.int .i64 aA, .int .i64 bA] ?_; intro fA hg iC hbox hb; replace cA := ak (hbox); replace dA := gw_ (w := w) hg; replace HB := ak (bst_ hb); replace eA := dA; clear hb hbox hg; obtain ⟨cB, dB, pB, qB⟩ := bz2_ cA) | ((with_reducible refine gc_ 90 rfl ?_); refine gl_ (some 31) Tryz.func90 #[.agg #[.int .i64 aA, .int .i64 bA]] ?_; (with_reducible refine (term_Op_takes.calls k aA bA gA _ qA.out).mono ?_); rintro e jC ⟨rfl, hb⟩; refine ⟨_, rfl, ?_⟩; replace cA := bb_ cA hb; replace HB := hs_ hb; (try clear hb); obtain ⟨eB, fB, rB, sB⟩ := bz2_ cA))); (go_ret); exact eB_
 rw [if_pos iA] at H; have mA : (aA == 3) = true := beq_iff_eq.mpr iA; have nA : (aA != 3) = false := bne_eq_false_iff_eq.mpr iA; clear iA; (by_cases jA : bA ≥ 0); rotate_left
 · rw [if_neg jA] at H; have oA : decide (0 ≤ bA) = false := decide_eq_false jA; clear jA; obtain rfl := Option.some.inj H; (go_enter Tryz.func83, Tryz.ntmps83); (go_wp2_with (first | ((with_reducible refine gd_ 1 rfl ?_); refine bx_ (N := 1) (t := 57) #[.int .i64 aA, .int .i64 bA] ?_; intro fA hg gC hbox hb; replace cA := ak (hbox); replace dA := gw_ (w := w) hg; replace HB := ak (bst_ hb); replace eA := dA; clear hb hbox hg; obtain ⟨aB, bB, nB, oB⟩ := bz2_ cA))); (go_ret); exact eB_
 rw [if_pos jA] at H; have oA : decide (0 ≤ bA) = true := decide_eq_true jA; clear jA; obtain rfl := Option.some.inj H; (go_enter Tryz.func83, Tryz.ntmps83); (go_wp2_with (first | ((with_reducible refine gd_ 1 rfl ?_); refine bx_ (N := 1) (t := 57) #[.int .i64 aA, .int .i64 bA] ?_; intro fA hg fC hbox hb; replace cA := ak (hbox); replace dA := gw_ (w := w) hg; replace HB := ak (bst_ hb); replace eA := dA; clear hb hbox hg; obtain ⟨yA, zA, lB, mB⟩ := bz2_ cA))); (go_ret); exact eB_
def term_Check_1.f (k : Nat) (aA : Int) (bA : Int) : Option (Bool) := (term_Op_may.f k aA bA).bind fun cA => (some (!cA))
theorem term_Check_1.mono : ∀ a0 a1 k, LeO (term_Check_1.f k a0 a1) (term_Check_1.f (k + 1) a0 a1) := by
 intro a0 a1 k; unfold term_Check_1.f; repeat' first | with_reducible first | apply term_Op_may.mono | exact LeO.refl _ | exact LeO.none _ | refine LeO.ite ?_ ?_ | refine LeO.bind ?_ fun _ => ?_
theorem term_Check_1.calls (k : Nat) (aA : Int) (bA : Int) (r : Bool) (w : World) (h : term_Check_1.f k aA bA = some r) :
 Calls Tryz.prog 82 #[.agg #[.int .i64 aA, .int .i64 bA]] w fun e w' => e = .returned (.bool r) ∧ Below w.heap.size w w' := by
 have iA := Tryz.underlying57; have HB := ak (Below.refl w.heap.size w); have H : ((term_Op_may.f k aA bA).bind fun dA => (some (!dA))) = some r := h; clear h; obtain ⟨dA, A2, H⟩ := bd_ H; obtain rfl := Option.some.inj H; (go_enter Tryz.func82, Tryz.ntmps82); (go_wp2_with (first | ((with_reducible refine gd_ 1 rfl ?_); refine bx_ (N := 1) (t := 57) #[.int .i64 aA, .int .i64 bA] ?_; intro gA hg w3 hbox hb; replace cA := ak (hbox); replace eA := gw_ (w := w) hg; replace HB := ak (bst_ hb); replace fA := eA; clear hb hbox hg; obtain ⟨jA, kA, lA, mA⟩ := bz2_ cA) | ((with_reducible refine gc_ 83 rfl ?_); refine gl_ (some 4) Tryz.func83 #[.agg #[.int .i64 aA, .int .i64 bA]] ?_; (with_reducible refine (term_Op_may.calls k aA bA dA _ A2.out).mono ?_); rintro e w5 ⟨rfl, hb⟩; refine ⟨_, rfl, ?_⟩; replace cA := bb_ cA hb; replace HB := hs_ hb; (try clear hb)))); (go_ret); exact eB_
def term_walk.l0 : Nat → Int → Int → List (S57) → Int → Int → Option (Int × Int)
 | 0, _, _, _, _, _ => none
 | k + 1, x4, x5, x8, x9, aA => if aA < x9 then (if 0 ≤ aA then (if aA < (x8.length : Int) then ((term_Op_takes.f k ((rd_T57 x8 aA).f0) ((rd_T57 x8 aA).f1)).bind fun cA => (if x4 < cA then (some ((-1), 0)) else ((term_Op_takes.f k ((rd_T57 x8 aA).f0) ((rd_T57 x8 aA).f1)).bind fun bA => (term_walk.l0 k (wrap64 (x4 + (wrap64 (1 - bA)))) (mx x5 (wrap64 (x4 + (wrap64 (1 - bA))))) x8 x9 (wrap64 (aA + 1)))))) else (none)) else (none)) else (some (x4, x5))
def term_walk.f (k : Nat) (l0 : List (S57)) : Option (Int × Int) := term_walk.l0 k 0 0 l0 (l0.length : Int) 0
theorem term_walk.mono_l : ∀ k, (∀ y0 y1 y2 y3 y4, LeO (term_walk.l0 k y0 y1 y2 y3 y4) (term_walk.l0 (k + 1) y0 y1 y2 y3 y4))
 | 0 => fun _ _ _ _ _ r h => by simp [term_walk.l0] at h
 | k + 1 => by
  have aA := term_walk.mono_l k
  · intro y0 y1 y2 y3 y4
    unfold term_walk.l0
    repeat' first | with_reducible first | apply aA | apply term_Op_takes.mono | exact LeO.refl _ | exact LeO.none _ | refine LeO.ite ?_ ?_ | refine LeO.bind ?_ fun _ => ?_
theorem term_walk.mono : ∀ a0 k, LeO (term_walk.f k a0) (term_walk.f (k + 1) a0) := by
 intro a0 k; have aA := term_walk.mono_l k; unfold term_walk.f; repeat' first | with_reducible first | apply aA | apply term_Op_takes.mono | exact LeO.refl _ | exact LeO.none _ | refine LeO.ite ?_ ?_ | refine LeO.bind ?_ fun _ => ?_
theorem term_walk.calls (k : Nat) (A0 : Option Addr) (c0 : Nat) (l0 : List (S57)) (r1 : Int) (r2 : Int) (w : World) (wA : Kd.C k57 w A0 l0.length l0) (vA : l0.length ≤ c0) (h : term_walk.f k l0 = some (r1, r2)) :
 Calls Tryz.prog 84 #[.slice A0 l0.length c0] w fun e w' => e = .returned (.tuple #[.int .i64 r1, .int .i64 r2]) ∧ Below w.heap.size w w' := by
 have mB := Tryz.underlying57; have uA := ak wA; have rB := ak vA; clear wA vA; have HB := ak (Below.refl w.heap.size w); have H : (term_walk.l0 k 0 0 l0 (l0.length : Int) 0) = some (r1, r2) := h; clear h; have H' := ak H; clear H; (go_enter Tryz.func84, Tryz.ntmps84); (go_wp2); (go_loopg [4, 5, 10] k (fun kq v4 v5 aB w' => ∃ (cA : Int) (kA : Int) (aA : Int), v4 = .int .i64 cA ∧ v5 = .int .i64 kA ∧ aB = .int .i64 aA ∧ Aside0 (term_walk.l0 kq cA kA l0 (l0.length : Int) aA = some (r1, r2)) ∧ Aside0 (kq ≤ k) ∧ Aside0 (Below w.heap.size w w'))); case atStart => exact ⟨(0), (0), (0), (by first | rfl | (simp; done) | (simp [*]; done)), (by first | rfl | (simp; done) | (simp [*]; done)), (by first | rfl | (simp; done) | (simp [*]; done)), H', ⟨Nat.le_refl _⟩, ⟨bsv_⟩⟩
 case round =>
  clear H'; obtain ⟨cA, kA, aA, rfl, rfl, rfl, HA, tA, HB⟩ := hrel
  cases gk with
  | zero => exact absurd HA.out (by simp [term_walk.l0])
  | succ k1 =>
   have H := HA.out; clear HA; simp only [term_walk.l0] at H; (by_cases c2 : aA < (l0.length : Int)); rotate_left
   · rw [if_neg c2] at H; have xA : decide (aA < (l0.length : Int)) = false := decide_eq_false c2; clear c2; simp only [Option.some.injEq, Prod.mk.injEq] at H; obtain ⟨rfl, rfl⟩ := H; (go_wp2); (go_ret2); exact eV_
   rw [if_pos c2] at H; have xA : decide (aA < (l0.length : Int)) = true := decide_eq_true c2; clear c2; (by_cases c3 : 0 ≤ aA); rotate_left
   · rw [if_neg c3] at H; exact absurd H (by simp)
   rw [if_pos c3] at H; have kB : decide (0 ≤ aA) = true := decide_eq_true c3; clear c3; (by_cases c4 : aA < (l0.length : Int)); rotate_left
   · rw [if_neg c4] at H; exact absurd H (by simp)
   rw [if_pos c4] at H; have lB : decide (aA < (l0.length : Int)) = true := decide_eq_true c4; clear c4; obtain ⟨lA, A5, H⟩ := bd_ H; by_cases c6 : cA < lA
   · rw [if_pos c6] at H; have yA : decide (cA < lA) = true := decide_eq_true c6; clear c6; simp only [Option.some.injEq, Prod.mk.injEq] at H; obtain ⟨rfl, rfl⟩ := H; have gA : 0 ≤ (aA : Int) := oda_; have iA : aA < (l0.length : Int) := oda_; obtain ⟨qA, nA, dA, eA⟩ := at_T57 uA.out aA gA iA; (cases nA); replace dA := bl_ HB dA; replace eA := bl_ HB eA; replace gA := eq_true gA; replace iA := eq_true iA; (go_wp2_with (first | ((with_reducible refine gd_ 7 rfl ?_); refine bx_ (N := 7) (t := 57) #[.int .i64 0, .int .i64 0] ?_; intro rA hg w7 hbox hb; replace bA := ak (hbox); replace mA := gw_ (w := w) hg; replace HB := ak (bst_ hb); replace pA := mA; clear hb hbox hg; obtain ⟨nB, oB, pB, qB⟩ := bz2_ bA) | ((with_reducible refine gc_ 90 rfl ?_); refine gl_ (some 16) Tryz.func90 #[.agg #[.int .i64 ((rd_T57 l0 aA).f0), .int .i64 ((rd_T57 l0 aA).f1)]] ?_; (with_reducible refine (term_Op_takes.calls k1 ((rd_T57 l0 aA).f0) ((rd_T57 l0 aA).f1) lA _ A5.out).mono ?_); rintro e w9 ⟨rfl, hb⟩; refine ⟨_, rfl, ?_⟩; replace bA := b2_ hb (pk_ (bp2_ bA.out)); replace HB := hs_ hb; (try clear hb)))); (go_ret2); exact eB_
   rw [if_neg c6] at H; have yA : decide (cA < lA) = false := decide_eq_false c6; clear c6; obtain ⟨jA, sA, H⟩ := bd_ H; obtain ⟨oA, fA⟩ : ∃ j_ : Int, (mx kA (wrap64 (cA + (wrap64 (1 - jA))))) = j_ := ⟨_, rfl⟩; (replace H : (term_walk.l0 k1 (wrap64 (cA + (wrap64 (1 - jA)))) oA l0 (l0.length : Int) (wrap64 (aA + 1))) = some (r1, r2) := by first | (rw [fA] at H; exact H) | (simp only [fA] at H ⊢; exact H)); ((try rw [fA] at A5)); ((try rw [fA] at sA)); have zA : (if kA < (wrap64 (cA + (wrap64 (1 - jA)))) then (wrap64 (cA + (wrap64 (1 - jA)))) else kA) = oA := fA; have H' := ak H; clear H; have gA : 0 ≤ (aA : Int) := oda_; have iA : aA < (l0.length : Int) := oda_; obtain ⟨qA, nA, dA, eA⟩ := at_T57 uA.out aA gA iA; (cases nA); replace dA := bl_ HB dA; replace eA := bl_ HB eA; replace gA := eq_true gA; replace iA := eq_true iA; (go_wp2_with (first | ((with_reducible refine gd_ 7 rfl ?_); refine bx_ (N := 7) (t := 57) #[.int .i64 0, .int .i64 0] ?_; intro rA hg sB hbox hb; replace bA := ak (hbox); replace mA := gw_ (w := w) hg; replace HB := ak (bst_ hb); replace pA := mA; clear hb hbox hg; obtain ⟨bB, cB, fB, gB⟩ := bz2_ bA) | ((with_reducible refine gc_ 90 rfl ?_); refine gl_ (some 16) Tryz.func90 #[.agg #[.int .i64 ((rd_T57 l0 aA).f0), .int .i64 ((rd_T57 l0 aA).f1)]] ?_; (with_reducible refine (term_Op_takes.calls k1 ((rd_T57 l0 aA).f0) ((rd_T57 l0 aA).f1) lA _ A5.out).mono ?_); rintro e tB ⟨rfl, hb⟩; refine ⟨_, rfl, ?_⟩; replace bA := b2_ hb (pk_ (bp2_ bA.out)); replace HB := hs_ hb; (try clear hb); obtain ⟨dB, eB, iB, jB⟩ := bz2_ bA) | ((with_reducible refine gc_ 90 rfl ?_); refine gl_ (some 20) Tryz.func90 #[.agg #[.int .i64 ((rd_T57 l0 aA).f0), .int .i64 ((rd_T57 l0 aA).f1)]] ?_; (with_reducible refine (term_Op_takes.calls k1 ((rd_T57 l0 aA).f0) ((rd_T57 l0 aA).f1) jA _ sA.out).mono ?_); rintro e uB ⟨rfl, hb⟩; refine ⟨_, rfl, ?_⟩; replace bA := bb_ bA hb; replace HB := hs_ hb; (try clear hb)))); (go_roundg k1); (case measure => have := tA.out; omega); case rel => exact ⟨(wrap64 (cA + (wrap64 (1 - jA)))), (oA), (wrap64 (aA + 1)), (by first | rfl | (simp; done) | (simp [*]; done)), (by first | rfl | (simp; done) | (simp only [← fA] <;> (first | rfl | simp)) | (simp [*]; done)), (by first | rfl | (simp; done) | (simp [*]; done)), H', ⟨by have := tA.out; omega⟩, ⟨bsw_⟩⟩
theorem ho81 (p : S57 → Option Bool) (g : Nat) (la lb : Array Value) (eg : ∀ args w, (callFunc g args).run Tryz.prog w = .ok (.enter g args) w) (A0 : Option Addr) (c0 : Nat) (l0 : List S57) (r : Int) (w : World)
 (aA : Kd.C k57 w A0 l0.length l0)
 (hp : ∀ (W : World) (x : S57) (b : Bool), Below w.heap.size w W → p x = some b → Calls Tryz.prog g (la ++ #[.agg #[.int .i64 x.f0, .int .i64 x.f1]] ++ lb) W fun e W' => e = .returned (.bool b) ∧ Below W.heap.size W W')
 (h : idxF p l0 0 = some r) :
 Calls Tryz.prog 81 #[.slice A0 l0.length c0, .func (.func g) la lb] w fun e w' => e = .returned (.int .i64 r) ∧ Below w.heap.size w w' := by
 have hmax : l0.length ≤ 9223372036854775807 := Kd.C_max aA
 have hread : ∀ (W : World), Below w.heap.size w W → ∀ j : Nat, j < l0.length → ∃ ad, A0 = some ad ∧ W.cell? (ad.add (j * 2)) = some (.int .i64 ((rd_T57 l0 j).f0)) ∧ W.cell? ⟨(ad.add (j * 2)).block, (ad.add (j * 2)).off + 1, none⟩ = some (.int .i64 ((rd_T57 l0 j).f1)) := by
  intro W hW j hj; have := at_T57 (Kd.C_below aA hW) (j : Int) (by omega) (by omega); simpa only [Int.toNat_natCast] using this
 generalize hn : l0.length = n at *; have HR := ak hread; have HP := ak hp; have HH := ak h; clear hread hp h aA; have HN := ak hn; clear hn; (go_enter Tryz.func81, Tryz.ntmps81); (go_wp2); (go_loopg [5, 8] n (fun gg _ s8 wr => ∃ kk : Nat, kk ≤ n ∧ n - kk ≤ gg ∧ s8 = .int .i64 kk ∧ Aside0 (Below w.heap.size w wr) ∧ Aside0 (idxF p (l0.drop kk) kk = some r))); case atStart => exact ⟨0, Nat.zero_le _, by omega, rfl, ⟨Below.refl _ w⟩, ⟨HH.out⟩⟩
 case round =>
  obtain ⟨kk, hkk, hg, rfl, BW, HI⟩ := hrel; (by_cases hlt : kk < n); rotate_left
  · (have hltz : ¬ (kk : Int) < (n : Int) := by omega); (have : kk = n := by omega); subst this; have hi := HI.out; rw [List.drop_of_length_le (by rw [HN.out]; omega)] at hi; (have hi2 : -1 = r := by simpa [idxF] using hi); clear hi HI; have HE := ak hi2; clear hi2; (go_wp2); (go_ret); exact ⟨by first | rfl | (rw [← HE.out]; rfl) | simp [HE.out], BW.out⟩
  (have hltz : (kk : Int) < (n : Int) := by omega); obtain ⟨ad, e0, q0, q1⟩ := HR.out wr BW.out kk hlt; have hi := HI.out; rw [idxF_drop p l0 z57 kk (by rw [HN.out]; exact hlt)] at hi; obtain ⟨b, hb, hi⟩ := Option.bind_eq_some_iff.mp hi; have hcall := HP.out wr _ b BW.out hb; ((try rw [show l0.getD kk z57 = rd_T57 l0 kk from rfl] at hcall)); generalize rd_T57 l0 kk = y at q0 q1 hcall; subst e0; clear hb HI
  cases b with
  | true =>
   (have hi2 : (kk : Int) = r := by simpa using hi); clear hi; have HE := ak hi2; clear hi2; (go_wp2_with (go_at_fn g; refine hcall.mono ?_; rintro e w' ⟨rfl, hb'⟩)); go_ret
   exact ⟨by first | rfl | (rw [← HE.out]; rfl) | simp [HE.out], BW.out.trans (hb'.mono BW.out.size)⟩
  | false =>
   (have hi2 : idxF p (l0.drop (kk + 1)) (kk + 1) = some r := by simpa using hi); clear hi; have HE := ak hi2; clear hi2; (go_wp2_with (go_at_fn g; refine hcall.mono ?_; rintro e w' ⟨rfl, hb'⟩)); (go_roundg (n - (kk + 1))); case measure => omega
   case rel =>
    exact ⟨kk + 1, by omega, by omega, by go_num, ⟨BW.out.trans (hb'.mono BW.out.size)⟩, ⟨HE.out⟩⟩
theorem ho60 (p : S57 → Option Bool) (g : Nat) (la lb : Array Value) (eg : ∀ args w, (callFunc g args).run Tryz.prog w = .ok (.enter g args) w) (A0 : Option Addr) (c0 : Nat) (l0 : List S57) (r : Bool) (w : World)
 (aA : Kd.C k57 w A0 l0.length l0)
 (hp : ∀ (W : World) (x : S57) (b : Bool), Below w.heap.size w W → p x = some b → Calls Tryz.prog g (la ++ #[.agg #[.int .i64 x.f0, .int .i64 x.f1]] ++ lb) W fun e W' => e = .returned (.bool b) ∧ Below W.heap.size W W')
 (h : anyF p l0 = some r) :
 Calls Tryz.prog 60 #[.slice A0 l0.length c0, .func (.func g) la lb] w fun e w' => e = .returned (.bool r) ∧ Below w.heap.size w w' := by
 obtain ⟨i, hi, hd⟩ := any_idx l0 0 r (by decide) h; have hc := ak (ho81 p g la lb eg A0 c0 l0 i w aA hp hi); have HD := ak hd; clear hd hi h hp aA eg; (go_enter Tryz.func60, Tryz.ntmps60); (go_wp2_with (go_at_call 81; refine hc.out.mono ?_; rintro e w' ⟨rfl, hb⟩)); (go_ret); exact ⟨by first | rfl | (rw [← HD.out]; rfl) | simp [HD.out], hb⟩
def any_at_term_Check_1.f (k : Nat) (l0 : List (S57)) : Option (Bool) := anyF (fun x => term_Check_1.f k  x.f0 x.f1) l0
theorem any_at_term_Check_1.mono : ∀ a0  k, LeO (any_at_term_Check_1.f k a0 ) (any_at_term_Check_1.f (k + 1) a0 ) := by
 intro a0  k; unfold any_at_term_Check_1.f; exact anyF_mono (fun x => term_Check_1.mono  x.f0 x.f1  k) a0
theorem any_at_term_Check_1.calls (k : Nat) (A0 : Option Addr) (c0 : Nat) (l0 : List (S57)) (r : Bool) (w : World) (aA : Kd.C k57 w A0 l0.length l0) (bA : l0.length ≤ c0) (h : any_at_term_Check_1.f k l0 = some r) :
 Calls Tryz.prog 60 #[.slice A0 l0.length c0, .func (.func 82) #[] #[]] w fun e w' => e = .returned (.bool r) ∧ Below w.heap.size w w' :=
 ho60 (fun x => term_Check_1.f k  x.f0 x.f1) 82 #[] #[] (enters_of Tryz.func82 (by kernel_rfl) rfl) A0 c0 l0 r w aA (fun W x b hW_ hx => by
  show Calls Tryz.prog 82 #[.agg #[.int .i64 x.f0, .int .i64 x.f1]] W _
  exact (term_Check_1.calls k  x.f0 x.f1 b W hx).mono (fun e W' ⟨he, hd⟩ => ⟨he, hd⟩)) h
def term_Check.j0 : Nat → List (S57) → Bool → Option (Int)
 | 0, _, _ => none
 | k + 1, x0, bA => if bA = true then (some 1) else ((term_walk.f k x0).bind fun aA => (if aA.1 = 1 then (some 0) else (some 2)))
def term_Check.f (k : Nat) (l0 : List (S57)) : Option (Int) := if (l0.length : Int) < 1 then (term_Check.j0 k l0 true) else (if (l0.length : Int) > 12 then (term_Check.j0 k l0 true) else ((any_at_term_Check_1.f k l0).bind fun aA => (term_Check.j0 k l0 aA)))
theorem term_Check.mono_l : ∀ k, (∀ y0 y1, LeO (term_Check.j0 k y0 y1) (term_Check.j0 (k + 1) y0 y1))
 | 0 => fun _ _ r h => by simp [term_Check.j0] at h
 | k + 1 => by
  have aA := term_Check.mono_l k
  · intro y0 y1
    unfold term_Check.j0
    repeat' first | with_reducible first | apply aA | apply any_at_term_Check_1.mono | apply term_walk.mono | exact LeO.refl _ | exact LeO.none _ | refine LeO.ite ?_ ?_ | refine LeO.bind ?_ fun _ => ?_
theorem term_Check.mono : ∀ a0 k, LeO (term_Check.f k a0) (term_Check.f (k + 1) a0) := by
 intro a0 k; have aA := term_Check.mono_l k; unfold term_Check.f; repeat' first | with_reducible first | apply aA | apply any_at_term_Check_1.mono | apply term_walk.mono | exact LeO.refl _ | exact LeO.none _ | refine LeO.ite ?_ ?_ | refine LeO.bind ?_ fun _ => ?_
theorem term_Check.calls (k : Nat) (A0 : Option Addr) (c0 : Nat) (l0 : List (S57)) (r : Int) (w : World) (qA : Kd.C k57 w A0 l0.length l0) (pA : l0.length ≤ c0) (h : term_Check.f k l0 = some r) :
 Calls Tryz.prog 62 #[.slice A0 l0.length c0] w fun e w' => e = .returned (.int .i64 r) ∧ Below w.heap.size w w' := by
 have jA := ak qA; have gA := ak pA; clear qA pA; have HB := ak (Below.refl w.heap.size w); have H : (if (l0.length : Int) < 1 then (term_Check.j0 k l0 true) else (if (l0.length : Int) > 12 then (term_Check.j0 k l0 true) else ((any_at_term_Check_1.f k l0).bind fun dA => (term_Check.j0 k l0 dA)))) = some r := h; clear h; have iA := ak H; clear H; (go_enter Tryz.func62, Tryz.ntmps62); (go_upto_region 1 with (fail)); go_cut [16] (fun uA wc => ∃ (kq : Nat) (cA : Bool), uA = .bool cA ∧ Aside0 (term_Check.j0 kq l0 cA = some r) ∧ Aside0 (kq ≤ k) ∧ Aside0 (Below w.heap.size w wc))
 case first =>
  have H := iA.out; clear iA; by_cases c3 : (l0.length : Int) < 1
  · rw [if_pos c3] at H; have bA : decide ((l0.length : Int) < 1) = true := decide_eq_true c3; have kA : decide (l0.length < 1) = true := decide_eq_true (by omega); clear c3; ((first | rw [bA] | (simp only [i64_w, i32_w]; rw [bA]) | skip)); have H' := ak H; clear H; (go_wp2); (go_meet); case rel => exact ⟨_, (true), (by first | rfl | (simp; done) | (simp [*]; done)), H', ⟨by first | omega | exact Nat.le_refl _⟩, ⟨bsv_⟩⟩
  rw [if_neg c3] at H; have bA : decide ((l0.length : Int) < 1) = false := decide_eq_false c3; have kA : decide (l0.length < 1) = false := decide_eq_false (by omega); clear c3; ((first | rw [bA] | (simp only [i64_w, i32_w]; rw [bA]) | skip)); by_cases c4 : (l0.length : Int) > 12
  · rw [if_pos c4] at H; have lA : decide (12 < (l0.length : Int)) = true := decide_eq_true c4; have mA : decide (12 < l0.length) = true := decide_eq_true (by omega); clear c4; have H' := ak H; clear H; (go_wp2); (go_meet); case rel => exact ⟨_, (true), (by first | rfl | (simp; done) | (simp [*]; done)), H', ⟨by first | omega | exact Nat.le_refl _⟩, ⟨bsv_⟩⟩
  rw [if_neg c4] at H; have lA : decide (12 < (l0.length : Int)) = false := decide_eq_false c4; have mA : decide (12 < l0.length) = false := decide_eq_false (by omega); clear c4; obtain ⟨dA, A5, H⟩ := bd_ H; have H' := ak H; clear H; (go_wp2_with (first | (go_at_call 60; (with_reducible refine (any_at_term_Check_1.calls k _ _ l0 dA _ ?eA ?fA A5.out).mono ?_); (case eA => exact cb_ jA HB); (case fA => exact gA.out); rintro e w6 ⟨rfl, hb⟩; replace HB := ak (bst_ hb); (try clear hb)))); (go_meet); case rel => exact ⟨_, (dA), (by first | rfl | (simp; done) | (simp [*]; done)), H', ⟨by first | omega | exact Nat.le_refl _⟩, ⟨bsv_⟩⟩
 case rest =>
  clear iA; (try clear p2); (try clear c3); (try clear bA); (try clear kA); (try clear c4); (try clear lA); (try clear mA); (try clear c6); obtain ⟨kq, cA, rfl, HA, vA, HB⟩ := hcut
  cases kq with
  | zero => exact absurd HA.out (by simp [term_Check.j0])
  | succ rA =>
   have H := HA.out; clear HA; simp only [term_Check.j0] at H; by_cases c7 : cA = true
   · subst c7; rw [if_pos rfl] at H; obtain rfl := Option.some.inj H; (go_wp2); (go_ret); exact eV_
   replace c7 := Bool.eq_false_iff.mpr c7; subst c7; rw [if_neg nf_] at H; replace H := Option.bind_eq_some_iff.mp H; obtain ⟨⟨aA, nA⟩, oA, H⟩ := H; have A8 := ak oA; clear oA; (by_cases c9 : aA = 1); rotate_left
   · rw [if_neg c9] at H; have sA : (aA == 1) = false := beq_eq_false_iff_ne.mpr c9; have tA : (aA != 1) = true := bne_iff_ne.mpr c9; obtain rfl := Option.some.inj H; (go_wp2_with (first | ((with_reducible refine gc_ 84 rfl ?_); refine gl_ (some 19) Tryz.func84 #[.slice A0 l0.length c0] ?_; (with_reducible refine (term_walk.calls rA _ _ l0 aA nA _ ?eA ?fA A8.out).mono ?_); (case eA => exact cb_ jA HB); (case fA => exact gA.out); rintro e xA ⟨rfl, hb⟩; refine ⟨_, rfl, ?_⟩; replace HB := ak (bst_ hb); (try clear hb)))); (go_ret); exact eV_
   rw [if_pos c9] at H; have sA : (aA == 1) = true := beq_iff_eq.mpr c9; have tA : (aA != 1) = false := bne_eq_false_iff_eq.mpr c9; clear c9; obtain rfl := Option.some.inj H; (go_wp2_with (first | ((with_reducible refine gc_ 84 rfl ?_); refine gl_ (some 19) Tryz.func84 #[.slice A0 l0.length c0] ?_; (with_reducible refine (term_walk.calls rA _ _ l0 aA nA _ ?eA ?fA A8.out).mono ?_); (case eA => exact cb_ jA HB); (case fA => exact gA.out); rintro e wA ⟨rfl, hb⟩; refine ⟨_, rfl, ?_⟩; replace HB := ak (bst_ hb); (try clear hb)))); (go_ret); exact eV_
def slices_Equal.l0 : Nat → List Int → List Int → Int → Int → Option (Bool)
 | 0, _, _, _, _ => none
 | k + 1, x0, x1, bA, aA => if aA < bA then (if 0 ≤ aA then (if aA < (x0.length : Int) then (if aA < (x1.length : Int) then (if (rd x0 aA) = (rd x1 aA) then (slices_Equal.l0 k x0 x1 bA (wrap64 (aA + 1))) else (some false)) else (none)) else (none)) else (none)) else (some true)
def slices_Equal.f (k : Nat) (l0 : List Int) (l1 : List Int) : Option (Bool) := if (l0.length : Int) = (l1.length : Int) then (slices_Equal.l0 k l0 l1 (l0.length : Int) 0) else (some false)
theorem slices_Equal.mono_l : ∀ k, (∀ y0 y1 y2 y3, LeO (slices_Equal.l0 k y0 y1 y2 y3) (slices_Equal.l0 (k + 1) y0 y1 y2 y3))
 | 0 => fun _ _ _ _ r h => by simp [slices_Equal.l0] at h
 | k + 1 => by
  have aA := slices_Equal.mono_l k
  · intro y0 y1 y2 y3
    unfold slices_Equal.l0
    repeat' first | with_reducible first | apply aA | exact LeO.refl _ | exact LeO.none _ | refine LeO.ite ?_ ?_ | refine LeO.bind ?_ fun _ => ?_
theorem slices_Equal.mono : ∀ a0 a1 k, LeO (slices_Equal.f k a0 a1) (slices_Equal.f (k + 1) a0 a1) := by
 intro a0 a1 k; have aA := slices_Equal.mono_l k; unfold slices_Equal.f; repeat' first | with_reducible first | apply aA | exact LeO.refl _ | exact LeO.none _ | refine LeO.ite ?_ ?_ | refine LeO.bind ?_ fun _ => ?_
theorem slices_Equal.calls (k : Nat) (A0 : Option Addr) (c0 : Nat) (l0 : List Int) (A1 : Option Addr) (c1 : Nat) (l1 : List Int) (r : Bool) (w : World) (tA : Kd.C (Kd.int .i64) w A0 l0.length l0) (sA : l0.length ≤ c0) (hr1 : Kd.C (Kd.int .i64) w A1 l1.length l1) (hc1 : l1.length ≤ c1) (h : slices_Equal.f k l0 l1 = some r) :
 Calls Tryz.prog 63 #[.slice A0 l0.length c0, .slice A1 l1.length c1] w fun e w' => e = .returned (.bool r) ∧ Drawn0 w w' := by
 have qA := ak tA; have bB := ak sA; clear tA sA; have rA := ak hr1; have cB := ak hc1; clear hr1 hc1; have H : (if (l0.length : Int) = (l1.length : Int) then (slices_Equal.l0 k l0 l1 (l0.length : Int) 0) else (some false)) = some r := h; clear h; (by_cases c3 : (l0.length : Int) = (l1.length : Int)); rotate_left
 · rw [if_neg c3] at H; have kA : ((l0.length : Int) == (l1.length : Int)) = false := beq_eq_false_iff_ne.mpr c3; have lA : ((l0.length : Int) != (l1.length : Int)) = true := bne_iff_ne.mpr c3; (have mA : (l0.length == l1.length) = false := by first | simpa using c3 | (simp at c3 ⊢; omega)); obtain rfl := Option.some.inj H; (go_enter Tryz.func63, Tryz.ntmps63); (go_wp2); (repeat (go_quiet (fail); try go_wp2)); (go_ret); exact ⟨by first | rfl | (simp; done) | (simp [*]; done), by repeat (first | exact Drawn0.refl _ | apply Drawn0.step)⟩
 rw [if_pos c3] at H; have kA : ((l0.length : Int) == (l1.length : Int)) = true := beq_iff_eq.mpr c3; have lA : ((l0.length : Int) != (l1.length : Int)) = false := bne_eq_false_iff_eq.mpr c3; (have mA : (l0.length == l1.length) = true := by first | simpa using c3 | (simp at c3 ⊢; omega)); clear c3; have H' := ak H; clear H; (go_enter Tryz.func63, Tryz.ntmps63); (go_wp2); (repeat (go_quiet (fail); try go_wp2)); (go_loopg [13] k (fun kq xA w' => ∃ (aA : Int), xA = .int .i64 aA ∧ Aside0 (slices_Equal.l0 kq l0 l1 (l0.length : Int) aA = some r) ∧ Aside0 (kq ≤ k) ∧ Drawn0 w w')); case atStart => exact ⟨(0), (by first | rfl | (simp; done) | (simp [*]; done)), H', ⟨Nat.le_refl _⟩, by repeat (first | exact Drawn0.refl _ | apply Drawn0.step)⟩
 case round =>
  clear H'; (try clear c1); (try clear p2); (try clear c3); (try clear kA); (try clear lA); (try clear mA); obtain ⟨aA, rfl, HA, pA, ⟨m1, rfl⟩⟩ := hrel
  cases gk with
  | zero => exact absurd HA.out (by simp [slices_Equal.l0])
  | succ k1 =>
   have H := HA.out; clear HA; simp only [slices_Equal.l0] at H; (by_cases c4 : aA < (l0.length : Int)); rotate_left
   · rw [if_neg c4] at H; have uA : decide (aA < (l0.length : Int)) = false := decide_eq_false c4; clear c4; obtain rfl := Option.some.inj H; (go_wp2); (repeat (go_quiet (fail); try go_wp2)); (go_ret); exact ⟨by first | rfl | (simp; done) | (simp [*]; done), by repeat (first | exact Drawn0.refl _ | apply Drawn0.step)⟩
   rw [if_pos c4] at H; have uA : decide (aA < (l0.length : Int)) = true := decide_eq_true c4; clear c4; (by_cases c5 : 0 ≤ aA); rotate_left
   · rw [if_neg c5] at H; exact absurd H (by simp)
   rw [if_pos c5] at H; have yA : decide (0 ≤ aA) = true := decide_eq_true c5; clear c5; (by_cases c6 : aA < (l0.length : Int)); rotate_left
   · rw [if_neg c6] at H; exact absurd H (by simp)
   rw [if_pos c6] at H; have zA : decide (aA < (l0.length : Int)) = true := decide_eq_true c6; clear c6; (by_cases c7 : aA < (l1.length : Int)); rotate_left
   · rw [if_neg c7] at H; exact absurd H (by simp)
   rw [if_pos c7] at H; have aB : decide (aA < (l1.length : Int)) = true := decide_eq_true c7; clear c7; (by_cases c8 : (rd l0 aA) = (rd l1 aA)); rotate_left
   · rw [if_neg c8] at H; have vA : ((rd l0 aA) == (rd l1 aA)) = false := beq_eq_false_iff_ne.mpr c8; have wA : ((rd l0 aA) != (rd l1 aA)) = true := bne_iff_ne.mpr c8; obtain rfl := Option.some.inj H; have bA : 0 ≤ (aA : Int) := oda_; have dA : aA < (l0.length : Int) := oda_; obtain ⟨nA, fA, iA⟩ := Kd.at_int qA.out aA bA dA; (cases fA); replace bA := eq_true bA; replace dA := eq_true dA; have cA : 0 ≤ (aA : Int) := oda_; have eA : aA < (l1.length : Int) := oda_; obtain ⟨oA, gA, jA⟩ := Kd.at_int rA.out aA cA eA; (cases gA); replace cA := eq_true cA; replace eA := eq_true eA; (go_wp2); (repeat (go_quiet (fail); try go_wp2)); (go_ret); exact ⟨by first | rfl | (simp; done) | (simp [*]; done), by repeat (first | exact Drawn0.refl _ | apply Drawn0.step)⟩
   rw [if_pos c8] at H; have vA : ((rd l0 aA) == (rd l1 aA)) = true := beq_iff_eq.mpr c8; have wA : ((rd l0 aA) != (rd l1 aA)) = false := bne_eq_false_iff_eq.mpr c8; clear c8; have H' := ak H; clear H; have bA : 0 ≤ (aA : Int) := oda_; have dA : aA < (l0.length : Int) := oda_; obtain ⟨nA, fA, iA⟩ := Kd.at_int qA.out aA bA dA; (cases fA); replace bA := eq_true bA; replace dA := eq_true dA; have cA : 0 ≤ (aA : Int) := oda_; have eA : aA < (l1.length : Int) := oda_; obtain ⟨oA, gA, jA⟩ := Kd.at_int rA.out aA cA eA; (cases gA); replace cA := eq_true cA; replace eA := eq_true eA; (go_wp2); (repeat (go_quiet (fail); try go_wp2)); (go_roundg k1); (case measure => have := pA.out; omega); case rel => exact ⟨(wrap64 (aA + 1)), (by first | rfl | (simp; done) | (simp [*]; done)), H', ⟨by have := pA.out; omega⟩, by repeat (first | exact Drawn0.refl _ | apply Drawn0.step)⟩
def slices_Sort.f (l0 : List Int) : Option (List Int) := if l0.length < 4611686018427387904 then some (l0.mergeSort fun x y => decide (x ≤ y)) else none
theorem slices_Sort.calls (cA : Nat → Prop) (aA : Value) (l0 : List Int) (r : List Int) (w0 w : World) (hB : Below w0.heap.size w0 w) (bA : Kd.R (Kd.int .i64) 3 w w0.heap.size cA aA l0) (h : slices_Sort.f l0 = some r) :
 Calls Tryz.prog 85 #[aA] w fun e w' => e = .returned (.tuple #[]) ∧ Kd.R (Kd.int .i64) 3 w' w0.heap.size (fun k_ => (cA k_ ∨ w.heap.size ≤ k_)) aA r ∧ Below w0.heap.size w0 w' ∧ Kept w w' (fun k_ => cA k_) := by
 unfold slices_Sort.f at h; (split at h); (case isFalse => exact absurd h (by simp)); rename_i hlen; obtain rfl := Option.some.inj h; rcases Nat.eq_zero_or_pos l0.length with h0 | h0
 · obtain rfl : l0 = [] := List.length_eq_zero_iff.1 h0; obtain ⟨_, ho⟩ := Kd.R_own bA; obtain ⟨A, c, rfl⟩ := own_slice ho; refine (Tryz.slices_Sort_int_none A c w).mono ?_; rintro e w' ⟨rfl, rfl⟩; exact ⟨rfl, Kd.R_mono (by simpa using bA) (fun k hk => .inl hk), hB, Kept.refl _ _⟩
 obtain ⟨g, cap, rfl, hbg, hgl, _⟩ := Kd.R_form bA h0; refine (Tryz.slices_Sort_int g 0 cap l0 w (So.holds_of bA) hgl hlen).mono ?_; rintro e w' ⟨rfl, n, os, rfl⟩; have hl : (l0.mergeSort fun x y => decide (x ≤ y)).length = l0.length := List.length_mergeSort _; have hr := So.put_row bA n _ (l0.mergeSort fun x y => decide (x ≤ y)) os hl (by rw [List.take_length]) h0; rw [hl] at hr; exact ⟨rfl, Kd.R_mono hr (fun k hk => .inl hk), So.put_below hB n g _ os hgl hbg, So.put_kept n g _ os hgl (bA.1 g rfl)⟩
def slices_Compact.f (l0 : List Int) : Option (List Int) := if l0.length ≤ 9223372036854775807 then some (Go.Lib.compact l0) else none
theorem slices_Compact.calls (cA : Nat → Prop) (bA : Value) (l0 : List Int) (r : List Int) (w0 w : World) (hB : Below w0.heap.size w0 w) (aA : Kd.R (Kd.int .i64) 3 w w0.heap.size cA bA l0) (h : slices_Compact.f l0 = some r) :
 Calls Tryz.prog 86 #[bA] w fun e w' => ∃ dA : Value, e = .returned (dA) ∧ Kd.R (Kd.int .i64) 3 w' w0.heap.size (fun k_ => (cA k_ ∨ w.heap.size ≤ k_)) dA r ∧ Below w0.heap.size w0 w' ∧ Kept w w' (fun k_ => cA k_) := by
 unfold slices_Compact.f at h; (split at h); (case isFalse => exact absurd h (by simp)); rename_i hlen; obtain rfl := Option.some.inj h; rcases Nat.eq_zero_or_pos l0.length with h0 | h0
 · obtain rfl : l0 = [] := List.length_eq_zero_iff.1 h0; obtain ⟨_, ho⟩ := Kd.R_own aA; obtain ⟨A, c, rfl⟩ := own_slice ho; refine (Tryz.slices_Compact_int_empty A c w).mono ?_; rintro e w' ⟨rfl, rfl⟩; exact ⟨_, rfl, Kd.R_mono (by simpa [Go.Lib.compact, Go.Lib.compactUpTo] using aA) (fun k hk => .inl hk), hB, Kept.refl _ _⟩
 obtain ⟨g, cap, rfl, hbg, hgl, _⟩ := Kd.R_form aA h0
 have hcap : l0.length ≤ cap := by
  rcases (Kd.own_of_R (enc := Value.int .i64) (h1 := fun _ => rfl) aA).2 with ⟨e1, _⟩ | ⟨g', cap', cur, e1, _, _, hn, _⟩
  · cases e1
  injection e1 with e1 e2 e3; omega
 refine (Tryz.slices_Compact_int g 0 cap l0 w (So.holds_of aA) hlen hcap).mono ?_; rintro e w' ⟨rfl, q, rfl⟩; have hcl : (Go.Lib.compact l0).length ≤ l0.length := So.compact_len l0; rw [← Go.Sort.grow_empty (Go.Sort.putRow _ _ _ _ _)]; have hr := So.put_row aA q (Go.Lib.compact l0 ++ List.replicate (l0.length - (Go.Lib.compact l0).length) 0) (Go.Lib.compact l0) #[] (by rw [List.length_append, List.length_replicate]; omega) (by rw [List.take_left']; rfl) h0; exact ⟨_, rfl, Kd.R_mono hr (fun k hk => .inl hk), So.put_below hB q g _ #[] hgl hbg, So.put_kept q g _ #[] hgl (aA.1 g rfl)⟩
end Go.Proofs.YtncloefpjeolaaaGreat.Zw
