import Derived.Test.YtncloefpjeolaaaGreatZwx0
namespace Go.Proofs.YtncloefpjeolaaaGreat.Zw
open Go.Proofs.YtncloefpjeolaaaGreat.Ho
open Go.RowKit Go.Proofs.YtncloefpjeolaaaGreatW.PrintWords Go.Proofs.YtncloefpjeolaaaGreatW.PrintLast Go.Proofs.YtncloefpjeolaaaGreatW.PrintMore
attribute [local go_sem] max2_int min2_int max_two min_two max_three min_three max_four min_four
set_option linter.unusedVariables false
set_option maxHeartbeats 80000000
set_option maxRecDepth 100000
set_option linter.unusedSimpArgs false
mutual
def r_16_met.l0 : Nat → List (S55) → Int → Int → Int → Int → List (S55) → List (S85) → Option (Bool)
 | 0, _, _, _, _, _, _, _ => none
 | k + 1, x1, x5, aA, bA, cA, dA, eA => if x5 < (x1.length : Int) then (r_16_met.l1 k x1 x5 0 aA bA cA dA eA) else (some false)
def r_16_met.l1 : Nat → List (S55) → Int → Int → Int → Int → Int → List (S55) → List (S85) → Option (Bool)
 | 0, _, _, _, _, _, _, _, _ => none
 | k + 1, x1, x5, x6, bA, cA, dA, aA, eA => if x6 < (aA.length : Int) then (if 0 ≤ x6 then (if 0 ≤ x5 then (if x5 < (x1.length : Int) then (if ((rd_T55 aA x6).f0) = ((rd_T55 x1 x5).f0) then (some true) else (r_16_met.l1 k x1 x5 (wrap64 (x6 + 1)) bA cA dA aA eA)) else (none)) else (none)) else (none)) else (r_16_met.l0 k x1 (wrap64 (x5 + 1)) bA cA dA aA eA)
end
def r_16_met.f (k : Nat) (aA : Int) (bA : Int) (cA : Int) (dA : List (S55)) (eA : List (S85)) (l1 : List (S55)) : Option (Bool) := r_16_met.l0 k l1 0 aA bA cA dA eA
theorem r_16_met.calls (k : Nat) (kA : Int) (lA : Int) (mA : Int) (rA : Option Addr) (tA : Nat) (bA : List (S55)) (sA : Option Addr) (uA : Nat) (eA : List (S85)) (A1 : Option Addr) (c1 : Nat) (l1 : List (S55)) (r : Bool) (w : World) (eB : Kd.C k55 w rA bA.length bA) (cB : bA.length ≤ tA) (fB : Kd.C k85 w sA eA.length eA) (dB : eA.length ≤ uA) (hr1 : Kd.C k55 w A1 l1.length l1) (hc1 : l1.length ≤ c1) (h : r_16_met.f k kA lA mA bA eA l1 = some r) :
 Calls Tryz.prog 19 #[.agg #[.int .i64 kA, .int .i64 lA, .int .i64 mA, .slice rA bA.length tA, .slice sA eA.length uA], .slice A1 l1.length c1] w fun e w' => e = .returned (.bool r) ∧ Below w.heap.size w w' := by
 have aD := Tryz.underlying44; have bB := ak eB; have pB := ak cB; clear eB cB; have rB := ak fB; have qB := ak dB; clear fB dB; have lB := ak hr1; have bD := ak hc1; clear hr1 hc1; have HB := ak (Below.refl w.heap.size w); have H : (r_16_met.l0 k l1 0 kA lA mA bA eA) = some r := h; clear h; have H' := ak H; clear H; (go_enter Tryz.func19, Tryz.ntmps19); (go_wp2_with (first | ((with_reducible refine gd_ 2 rfl ?_); refine bx_ (N := 2) (t := 44) #[.int .i64 kA, .int .i64 lA, .int .i64 mA, .slice rA bA.length tA, .slice sA eA.length uA] ?_; intro wA hg w3 hbox hb; replace dA := ak (hbox); replace vA := gw_ (w := w) hg; replace HB := ak (bst_ hb); replace iB := vA; clear hb hbox hg))); (repeat (go_quiet (fail); try go_wp2_with (first | ((with_reducible refine gd_ 2 rfl ?_); refine bx_ (N := 2) (t := 44) #[.int .i64 kA, .int .i64 lA, .int .i64 mA, .slice rA bA.length tA, .slice sA eA.length uA] ?_; intro wA hg w3 hbox hb; replace dA := ak (hbox); replace vA := gw_ (w := w) hg; replace HB := ak (bst_ hb); replace iB := vA; clear hb hbox hg)))); (go_loopg [5] k (fun kq v5 w' => ∃ (aA : Int), v5 = .int .i64 aA ∧ Aside0 (r_16_met.l0 kq l1 aA kA lA mA bA eA = some r) ∧ Aside0 (kq ≤ k) ∧ Aside0 (w'.heap[wA]? = some (.cells #[.int .i64 kA, .int .i64 lA, .int .i64 mA, (.slice rA bA.length tA), (.slice sA eA.length uA)] 44 (0, 0))) ∧ Aside0 (Below w.heap.size w w'))); case atStart => exact ⟨(0), (by first | rfl | (simp; done) | (simp [*]; done)), H', ⟨Nat.le_refl _⟩, ⟨bq_ dA⟩, ⟨bsw_⟩⟩
 case round =>
  clear H'; (try clear c1); (try clear p2); obtain ⟨aA, rfl, HA, zA, dA, HB⟩ := hrel
  cases gk with
  | zero => exact absurd HA.out (by simp [r_16_met.l0])
  | succ k1 =>
   have H := HA.out; clear HA; simp only [r_16_met.l0] at H; (by_cases c4 : aA < (l1.length : Int)); rotate_left
   · rw [if_neg c4] at H; have gB : decide (aA < (l1.length : Int)) = false := decide_eq_false c4; clear c4; obtain rfl := Option.some.inj H; (go_wp2); (repeat (go_quiet (fail); try go_wp2)); (go_ret); exact eB_
   rw [if_pos c4] at H; have gB : decide (aA < (l1.length : Int)) = true := decide_eq_true c4; clear c4; have H' := ak H; clear H; (go_wp2); (repeat (go_quiet (fail); try go_wp2)); (go_loopg [6] k1 (fun kq v6 w' => ∃ (cA : Int), v6 = .int .i64 cA ∧ Aside0 (r_16_met.l1 kq l1 aA cA kA lA mA bA eA = some r) ∧ Aside0 (kq ≤ k1) ∧ Aside0 (w'.heap[wA]? = some (.cells #[.int .i64 kA, .int .i64 lA, .int .i64 mA, (.slice rA bA.length tA), (.slice sA eA.length uA)] 44 (0, 0))) ∧ Aside0 (Below w.heap.size w w'))); case atStart => exact ⟨(0), (by first | rfl | (simp; done) | (simp [*]; done)), H', ⟨Nat.le_refl _⟩, ⟨bq_ dA⟩, ⟨bsw_⟩⟩
   case round =>
    clear H'; (try clear c1); (try clear p2); (try clear c4); (try clear gB); (try clear p2); obtain ⟨cA, rfl, HA, aB, dA, HB⟩ := hrel
    cases gk with
    | zero => exact absurd HA.out (by simp [r_16_met.l1])
    | succ k2 =>
     have H := HA.out; clear HA; simp only [r_16_met.l1] at H; (by_cases c5 : cA < (bA.length : Int)); rotate_left
     · rw [if_neg c5] at H; have mB : decide (cA < (bA.length : Int)) = false := decide_eq_false c5; clear c5; have H' := ak H; clear H; obtain ⟨cC, dC, eC, fC, gC, sC, tC, uC, vC, wC⟩ := bz5_ dA; (go_wp2); (repeat (go_quiet (fail); try go_wp2)); (go_roundg k2); (case measure => have := zA.out; have := aB.out; omega); case rel => exact ⟨(wrap64 (aA + 1)), (by first | rfl | (simp; done) | (simp [*]; done)), H', ⟨by have := zA.out; have := aB.out; omega⟩, ⟨bq_ dA⟩, ⟨bsw_⟩⟩
     rw [if_pos c5] at H; have mB : decide (cA < (bA.length : Int)) = true := decide_eq_true c5; clear c5; (by_cases c6 : 0 ≤ cA); rotate_left
     · rw [if_neg c6] at H; exact absurd H (by simp)
     rw [if_pos c6] at H; have xC : decide (0 ≤ cA) = true := decide_eq_true c6; clear c6; (by_cases c7 : 0 ≤ aA); rotate_left
     · rw [if_neg c7] at H; exact absurd H (by simp)
     rw [if_pos c7] at H; have yC : decide (0 ≤ aA) = true := decide_eq_true c7; clear c7; (by_cases c8 : aA < (l1.length : Int)); rotate_left
     · rw [if_neg c8] at H; exact absurd H (by simp)
     rw [if_pos c8] at H; have zC : decide (aA < (l1.length : Int)) = true := decide_eq_true c8; clear c8; by_cases c9 : ((rd_T55 bA cA).f0) = ((rd_T55 l1 aA).f0)
     · rw [if_pos c9] at H; have nB : (((rd_T55 bA cA).f0) == ((rd_T55 l1 aA).f0)) = true := beq_iff_eq.mpr c9; have oB : (((rd_T55 bA cA).f0) != ((rd_T55 l1 aA).f0)) = false := bne_eq_false_iff_eq.mpr c9; clear c9; obtain rfl := Option.some.inj H; obtain ⟨sB, tB, uB, vB, wB, iC, jC, kC, lC, mC⟩ := bz5_ dA; have nA : 0 ≤ (cA : Int) := oda_; have pA : cA < (bA.length : Int) := oda_; obtain ⟨jB, xA, fA, gA⟩ := at_T55 bB.out cA nA pA; (cases xA); replace fA := bl_ HB fA; replace gA := bl_ HB gA; replace nA := eq_true nA; replace pA := eq_true pA; have oA : 0 ≤ (aA : Int) := oda_; have qA : aA < (l1.length : Int) := oda_; obtain ⟨kB, yA, iA, jA⟩ := at_T55 lB.out aA oA qA; (cases yA); replace iA := bl_ HB iA; replace jA := bl_ HB jA; replace oA := eq_true oA; replace qA := eq_true qA; (go_wp2); (repeat (go_quiet (fail); try go_wp2)); (go_ret); exact eB_
     rw [if_neg c9] at H; have nB : (((rd_T55 bA cA).f0) == ((rd_T55 l1 aA).f0)) = false := beq_eq_false_iff_ne.mpr c9; have oB : (((rd_T55 bA cA).f0) != ((rd_T55 l1 aA).f0)) = true := bne_iff_ne.mpr c9; have H' := ak H; clear H; obtain ⟨xB, yB, zB, aC, bC, nC, oC, pC, qC, rC⟩ := bz5_ dA; have nA : 0 ≤ (cA : Int) := oda_; have pA : cA < (bA.length : Int) := oda_; obtain ⟨jB, xA, fA, gA⟩ := at_T55 bB.out cA nA pA; (cases xA); replace fA := bl_ HB fA; replace gA := bl_ HB gA; replace nA := eq_true nA; replace pA := eq_true pA; have oA : 0 ≤ (aA : Int) := oda_; have qA : aA < (l1.length : Int) := oda_; obtain ⟨kB, yA, iA, jA⟩ := at_T55 lB.out aA oA qA; (cases yA); replace iA := bl_ HB iA; replace jA := bl_ HB jA; replace oA := eq_true oA; replace qA := eq_true qA; (go_wp2); (repeat (go_quiet (fail); try go_wp2)); (go_roundg k2); (case measure => have := zA.out; have := aB.out; omega); case rel => exact ⟨(wrap64 (cA + 1)), (by first | rfl | (simp; done) | (simp [*]; done)), H', ⟨by have := zA.out; have := aB.out; omega⟩, ⟨bq_ dA⟩, ⟨bsw_⟩⟩
end Go.Proofs.YtncloefpjeolaaaGreat.Zw
