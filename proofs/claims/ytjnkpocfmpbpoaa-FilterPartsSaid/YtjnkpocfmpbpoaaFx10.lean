-- PRINTED by print.py (a twelfth state) out of the translation. Not trusted: Lean checks it.
import Derived.Test.YtjnkpocfmpbpoaaFx0
import Derived.Test.YtjnkpocfmpbpoaaFx6
import Derived.Test.YtjnkpocfmpbpoaaFx8
import Derived.Test.YtjnkpocfmpbpoaaFx9
namespace Go.Proofs.Ytjnkpocfmpbpoaa.F
open Go.Proofs.Ytjnkpocfmpbpoaa.Ho
open Go.RowKit Go.Proofs.YtjnkpocfmpbpoaaW.PrintWords Go.Proofs.YtjnkpocfmpbpoaaW.PrintLast Go.Proofs.YtjnkpocfmpbpoaaW.PrintMore
attribute [local go_sem] max2_int min2_int max_two min_two max_three min_three max_four min_four   -- for this text's walks alone
set_option linter.unusedVariables false
set_option linter.unusedSimpArgs false

theorem filter_ways.calls (w : World) : Calls Try.prog 62 #[] w fun e w' => ∃ g, e = .returned (.map (some g)) ∧ w'.heap[g]? = some (.map (Mp.rows3 90 91 92) 3) ∧ Below w.heap.size w w' := by
 have hm : Try.prog.underlying 100 = some (.map 3 69) := by kernel_rfl
 have hd : Try.prog.underlying 3 = some (.int .i64) := by kernel_rfl
 obtain ⟨w0, h0, b0, k0⟩ := Mp.new1 (P := Try.prog) w 100
 obtain ⟨w1, h1, b1, k1⟩ := Mp.put1 hm hd w w0 _ _ b0 k0 1 (.func (.func 90) #[] #[]) (by kernel_rfl)
 obtain ⟨w2, h2, b2, k2⟩ := Mp.put1 hm hd w w1 _ _ b1 k1 2 (.func (.func 91) #[] #[]) (by kernel_rfl)
 obtain ⟨w3, h3, b3, k3⟩ := Mp.put1 hm hd w w2 _ _ b2 k2 3 (.func (.func 92) #[] #[]) (by kernel_rfl)
 replace b3 : w3.heap[w.heap.size]? = some (.map (Mp.rows3 90 91 92) 3) := b3
 clear b0 b1 b2 k0 k1 k2
 go_enter Try.func62, Try.ntmps62
 go_wp2
 go_ret
 exact ⟨_, rfl, b3, k3⟩
/-! ### filter_May: function 37 -/
def filter_May.f (k : Nat) (a0_0 : Int) (a0_1 : Int) (a0_2 : Int) (l0_3 : List (S62)) (l0_4 : List (S80)) (l1 : List (S98)) : Option (Bool) := (sleep_Right.f k (([(⟨a0_0, a0_1, a0_2, l0_3, l0_4⟩ : S26)] : List (S26)))).bind fun t276 => (if t276 = true then ((heap_Right.f l1).bind fun t277 => (if t277 = true then (if a0_1 = 1 then ((filter_always.f a0_0 a0_1 a0_2 l0_3 l0_4 l1).bind fun t278 => (some t278)) else (if a0_1 = 2 then ((filter_changed.f a0_0 a0_1 a0_2 l0_3 l0_4 l1).bind fun t279 => (some t279)) else (if a0_1 = 3 then ((filter_holds.f k a0_0 a0_1 a0_2 l0_3 l0_4 l1).bind fun t280 => (some t280)) else (none)))) else (some false))) else (some false))
theorem filter_May.mono : ∀ a0 a1 a2 a3 a4 a5 k, LeO (filter_May.f k a0 a1 a2 a3 a4 a5) (filter_May.f (k + 1) a0 a1 a2 a3 a4 a5) := by
 intro a0 a1 a2 a3 a4 a5 k
 unfold filter_May.f
 repeat' first
  | (with_reducible exact filter_holds.mono _ _ _ _ _ _ _)
  | (with_reducible exact sleep_Right.mono _ _)
  | (with_reducible exact LeO.refl _)
  | (with_reducible exact LeO.none _)
  | (with_reducible refine LeO.ite ?_ ?_)
  | (with_reducible refine LeO.bind ?_ (fun _ => ?_))
  | exact filter_holds.mono _ _ _ _ _ _ _
  | exact sleep_Right.mono _ _
  | exact LeO.none _
  | refine LeO.ite ?_ ?_
  | refine LeO.bind ?_ (fun _ => ?_)
def filter_May.T1 : Bool × List (List Nat × List Nat) := (true, [([], []), ([0], [0]), ([1], [1]), ([2, 2], [2]), ([3], [3]), ([4, 3, 3], [3, 4]), ([3, 5], [3, 5]), ([6, 5], [6]), ([7, 7], [7]), ([7], [7]), ([9, 7], [7, 9]), ([8, 10, 7], [7, 8, 10]), ([7], [7]), ([7], [7]), ([11, 12, 13, 8, 7], [7, 11, 12, 13]), ([7, 14], [7, 14]), ([15, 14, 0, 1, 2, 3, 4, 5, 6, 7, 8, 9, 10, 11, 12, 13, 14, 15], [15])])
def filter_May.B1 : List Nat := [0, 1, 3, 7, 15, 31, 63, 127, 255, 255, 767, 2047, 255, 255, 16383, 32767, 65535]
theorem filter_May.tab1 : rtab .any (opsOf Try.f37 1) = filter_May.T1 := by kernel_rfl
theorem filter_May.bits1 : waitsOk filter_May.T1.2 filter_May.B1 = true := by kernel_rfl
set_option maxHeartbeats 8000000 in
set_option maxRecDepth 100000 in
theorem filter_May.calls (k : Nat) (a0_0 : Int) (a0_1 : Int) (a0_2 : Int) (P0_3_ : Nat → Prop) (A0_3 : Option Addr) (c0_3 : Nat) (l0_3 : List (S62)) (P0_4_ : Nat → Prop) (A0_4 : Option Addr) (c0_4 : Nat) (l0_4 : List (S80)) (A1 : Option Addr) (c1 : Nat) (l1 : List (S98)) (r : Bool) (w : World) (hs0_3 : Kd.V k62 62 w w.heap.size (fun k_ => P0_3_ k_) (.slice A0_3 l0_3.length c0_3) l0_3) (hs0_4 : Kd.V k80 80 w w.heap.size (fun k_ => P0_4_ k_) (.slice A0_4 l0_4.length c0_4) l0_4) (hr1 : Kd.C k98 w A1 l1.length l1) (hc1 : l1.length ≤ c1) (h : filter_May.f k a0_0 a0_1 a0_2 l0_3 l0_4 l1 = some r) :
 Calls Try.prog 37 #[.agg #[.int .i64 a0_0, .int .i64 a0_1, .int .i64 a0_2, .slice A0_3 l0_3.length c0_3, .slice A0_4 l0_4.length c0_4], .slice A1 l1.length c1] w fun e w' => e = .returned (.bool r) ∧ Below w.heap.size w w' := by
 have hu26 := Try.underlying26
 have HO0_3 := ak (show Kd.V k62 62 w w.heap.size (fun k_ => ((P0_3_ k_ ∨ P0_4_ k_) ∨ w.heap.size ≤ k_)) (.slice A0_3 l0_3.length c0_3) l0_3 from Kd.V_mono hs0_3 (fun k_ hk => .inl (.inl hk)))
 have HO0_4 := ak (show Kd.V k80 80 w w.heap.size (fun k_ => ((P0_3_ k_ ∨ P0_4_ k_) ∨ w.heap.size ≤ k_)) (.slice A0_4 l0_4.length c0_4) l0_4 from Kd.V_mono hs0_4 (fun k_ hk => .inl (.inr hk)))
 have HR1 := ak hr1
 have HC1 := ak hc1
 clear hr1 hc1
 have HB := ak (Below.refl w.heap.size w)
 have H : ((sleep_Right.f k (([(⟨a0_0, a0_1, a0_2, l0_3, l0_4⟩ : S26)] : List (S26)))).bind fun t276 => (if t276 = true then ((heap_Right.f l1).bind fun t277 => (if t277 = true then (if a0_1 = 1 then ((filter_always.f a0_0 a0_1 a0_2 l0_3 l0_4 l1).bind fun t278 => (some t278)) else (if a0_1 = 2 then ((filter_changed.f a0_0 a0_1 a0_2 l0_3 l0_4 l1).bind fun t279 => (some t279)) else (if a0_1 = 3 then ((filter_holds.f k a0_0 a0_1 a0_2 l0_3 l0_4 l1).bind fun t280 => (some t280)) else (none)))) else (some false))) else (some false))) = some r := h
 clear h
 obtain ⟨y273, hy273⟩ : ∃ y_ : List (S26), y_ = (([(⟨a0_0, a0_1, a0_2, l0_3, l0_4⟩ : S26)] : List (S26))) := ⟨_, rfl⟩
 replace H : ((sleep_Right.f k y273).bind fun t276 => (if t276 = true then ((heap_Right.f l1).bind fun t277 => (if t277 = true then (if a0_1 = 1 then ((filter_always.f a0_0 a0_1 a0_2 l0_3 l0_4 l1).bind fun t278 => (some t278)) else (if a0_1 = 2 then ((filter_changed.f a0_0 a0_1 a0_2 l0_3 l0_4 l1).bind fun t279 => (some t279)) else (if a0_1 = 3 then ((filter_holds.f k a0_0 a0_1 a0_2 l0_3 l0_4 l1).bind fun t280 => (some t280)) else (none)))) else (some false))) else (some false))) = some r := by first | (rw [hy273]; with_reducible exact H) | (have H2_ := (Option.bind_some _ _).symm.trans H; rw [hy273]; with_reducible exact H2_) | (have H2_ := (Option.bind_some _ _).symm.trans H; with_reducible exact H2_) | with_reducible exact H | (rw [hy273]; exact H) | exact H
 have Ny273 := ak hy273
 clear hy273
 obtain ⟨t276, A3, H⟩ := bd_ H
 by_cases c4 : t276 = true
 · subst c4
   rw [if_pos rfl] at H
   obtain ⟨t277, A5, H⟩ := bd_ H
   by_cases c6 : t277 = true
   · subst c6
     rw [if_pos rfl] at H
     by_cases c7 : a0_1 = 1
     · rw [if_pos c7] at H
       have c7b0 : (a0_1 == 1) = true := beq_iff_eq.mpr c7
       have c7b1 : (a0_1 != 1) = false := bne_eq_false_iff_eq.mpr c7
       clear c7
       obtain ⟨t278, A8, H⟩ := bd_ H
       obtain rfl := Option.some.inj H
       go_enter Try.func37, Try.ntmps37
       try go_wp2_with (first | ((with_reducible refine gate_dst (N := 2) rfl ?_); refine box_event ?hg (N := 2) ?hd (cs := #[.int .i64 a0_0, .int .i64 a0_1, .int .i64 a0_2, .slice A0_3 l0_3.length c0_3, .slice A0_4 l0_4.length c0_4]) (t := 26) ?hr ?_; (case hd => rfl); (case hg => rfl); (case hr => first | (go_simp; done) | (go_simp; rfl)); intro gb272 hg w9 hbox hb; replace HO0_3 := ak (Kd.V_below (Kd.V_elderB (vq_ HO0_3) gb272 (Nat.le_of_eq hg.symm)) hb); replace HO0_4 := ak (Kd.V_below (Kd.V_elderB (vq_ HO0_4) gb272 (Nat.le_of_eq hg.symm)) hb); replace BK272 := ak (hbox); replace GW272 := ak ((by rw [hg]; exact bsz_ : w.heap.size ≤ gb272)); replace HB := ak (bst_ hb); replace GE272 := GW272; clear hb hbox hg))
       have n0_ := ak (Kd.V_drew HO0_3.out)
       have n1_ := ak (Kd.V_drew HO0_4.out)
       have n2_ := ak (blk_drew BK272.out)
       have n3_ := ak (below_drew1 HB.out)
       clear HO0_3
       clear HO0_4
       clear BK272
       clear HB
       have HO0_3 := n0_
       have HO0_4 := n1_
       have BK272 := n2_
       have HB := n3_
       clear n0_ n1_ n2_ n3_
       refine start_ (n := 17) (S := fun w' => w'.cell? ⟨gb272, 0, none⟩ = some (.int .i64 a0_0) ∧ w'.cell? ⟨gb272, 1, none⟩ = some (.int .i64 a0_1) ∧ w'.cell? ⟨gb272, 2, none⟩ = some (.int .i64 a0_2) ∧ w'.cell? ⟨gb272, 3, none⟩ = some (.slice A0_3 l0_3.length c0_3) ∧ w'.cell? ⟨gb272, 4, none⟩ = some (.slice A0_4 l0_4.length c0_4)) (ds := []) (fb 17 0) (by kernel_rfl) rfl rfl ⟨(blk_cell BK272.out 0).trans rfl, (blk_cell BK272.out 1).trans rfl, (blk_cell BK272.out 2).trans rfl, (blk_cell BK272.out 3).trans rfl, (blk_cell BK272.out 4).trans rfl⟩ (fun hHeld => ?_); refine with_tabW filter_May.tab1 filter_May.bits1 (fun HT_ HW_ => ?_)
       generalize w9.drew = w10 at HO0_3 HO0_4 BK272 HB hHeld ⊢
       refine ta5_ 0 (some 5) (fb 17 1) HT_ HW_ hHeld ?_
       refine one_ (i := 1) (N := some 6) (fb 17 3) rfl rfl (one_of HT_.out (by kernel_rfl)) (by decide) (fun K hK => ?_)
       refine Kd.N_lit_step k26 _ 26 ?hg (N' := 6) ?hd (xs := ([(⟨a0_0, a0_1, a0_2, l0_3, l0_4⟩ : S26)] : List (S26))) (inner := [.int .i64 a0_0, .int .i64 a0_1, .int .i64 a0_2, .slice A0_3 l0_3.length c0_3, .slice A0_4 l0_4.length c0_4]) (ok := (fun k_ => ((P0_3_ k_ ∨ P0_4_ k_) ∨ w.heap.size ≤ k_) ∧ k_ ≠ gb272)) (okp := (fun k_ => ((P0_3_ k_ ∨ P0_4_ k_) ∨ w.heap.size ≤ k_) ∧ k_ ≠ gb272)) ?hr ?hp (fun _ hk => hk) ((show ∀ k_, w10.heap.size ≤ k_ → (fun k_ => ((P0_3_ k_ ∨ P0_4_ k_) ∨ w.heap.size ≤ k_) ∧ k_ ≠ gb272) k_ from fun k_ hk => ⟨(.inr (Nat.le_trans (below_size bsw_) hk)), Kd.freshB (g := gb272) (o := .cells #[.int .i64 a0_0, .int .i64 a0_1, .int .i64 a0_2, .slice A0_3 l0_3.length c0_3, .slice A0_4 l0_4.length c0_4] 26 (0, 0)) (bq_ BK272) k_ hk⟩) _ (Nat.le_refl _)) (Below.refl _ _) (Nat.le_refl _) (by simp) ?_; (case hd => rfl); (case hg => rfl); (case hr => first | (go_simp; done) | (go_simp; rfl)); (case hp => exact (Reps.c5 (show Kd.FK k26 _ _ (⟨a0_0, a0_1, a0_2, l0_3, l0_4⟩ : S26) [.int .i64 a0_0, .int .i64 a0_1, .int .i64 a0_2, .slice A0_3 l0_3.length c0_3, .slice A0_4 l0_4.length c0_4] from (k26_mkF _ _ (⟨a0_0, a0_1, a0_2, l0_3, l0_4⟩ : S26) (Kd.V_reads' (Kd.V_mono (ok' := (fun k_ => ((P0_3_ k_ ∨ P0_4_ k_) ∨ w.heap.size ≤ k_) ∧ k_ ≠ gb272)) (HO0_3.out) (fun k_ hk => ⟨hk.1, hk.2⟩))).2.1 (Kd.V_F (Kd.V_mono (ok' := (fun k_ => ((P0_3_ k_ ∨ P0_4_ k_) ∨ w.heap.size ≤ k_) ∧ k_ ≠ gb272)) (HO0_3.out) (fun k_ hk => ⟨hk.1, hk.2⟩))) (Kd.V_reads' (Kd.V_mono (ok' := (fun k_ => ((P0_3_ k_ ∨ P0_4_ k_) ∨ w.heap.size ≤ k_) ∧ k_ ≠ gb272)) (HO0_4.out) (fun k_ hk => ⟨hk.1, hk.2⟩))).2.1 (Kd.V_F (Kd.V_mono (ok' := (fun k_ => ((P0_3_ k_ ∨ P0_4_ k_) ∨ w.heap.size ≤ k_) ∧ k_ ≠ gb272)) (HO0_4.out) (fun k_ hk => ⟨hk.1, hk.2⟩))))) (Reps.none _ _)))
       intro v274 w11 ho12 hb hg_ hnew_
       clear hg_ hnew_
       (first | rw [← Ny273.out] at ho12 | (simp only [Int.reduceToNat] at ho12; rw [← Ny273.out] at ho12))
       have n0_ := ak (Kd.V_elder' (vq_ HO0_3) (Kd.N_base ho12) hb)
       have n1_ := ak (Kd.V_elder' (vq_ HO0_4) (Kd.N_base ho12) hb)
       have n2_ := ak (Kd.N_lower ho12 (below_size bsw_))
       have n3_ := bb_ BK272 hb
       have n4_ := ak (below_step bsw_ hb)
       clear HO0_3
       clear HO0_4
       clear BK272
       clear HB
       have HO0_3 := n0_
       have HO0_4 := n1_
       have HO275 := n2_
       have BK272 := n3_
       have HB := n4_
       clear n0_ n1_ n2_ n3_ n4_
       clear hb ho12
       obtain ⟨Ao13, co13, eo13⟩ := Kd.N_slice HO275.out
       (first | subst eo13 | (injection eo13 with f1_ f2_ f3_; have f4_ := f1_.symm; have f5_ := f3_.symm; clear f1_ f2_ f3_; subst f4_; subst f5_))
       refine hK.out _ _ (bc5_ BK272) (fun hHeld => ?_)
       clear hK K
       refine no_ (some 6) ?_
       refine one_ (i := 2) (N := some 7) (fb 17 7) rfl rfl (one_of HT_.out (by kernel_rfl)) (by decide) (fun K hK => ?_)
       refine goes_ Try.func26 (by kernel_rfl) rfl #[.slice Ao13 y273.length co13] (by rfl) rfl rfl (by (try simp only [List.map_toArray, List.map_cons, List.map_nil]); first | done | rfl | (simp only [List.length_drop, List.length_take]; rfl)) ?_
       with_reducible refine (sleep_Right.calls k _ _ y273 true _ ?side1 ?side2 A3.out).mono ?_
       (case side1 => repeat (first | exact (Kd.N_reads' HO275.out).2.2 | with_reducible first | refine Kd.C_alloc ?_ _ | refine Kd.C_drewN ?_ _ | refine Kd.C_drew ?_))
       (case side2 => exact (Kd.N_reads' HO275.out).2.1)
       rintro e w14 ⟨rfl, hb⟩
       refine ⟨_, rfl, ?_⟩
       have n0_ := vb_ HO0_3 hb
       have n1_ := vb_ HO0_4 hb
       have n2_ := nb_ HO275 hb
       have n3_ := bb_ BK272 hb
       have n4_ := ak (below_step bsw_ hb)
       clear HO0_3
       clear HO0_4
       clear HO275
       clear BK272
       clear HB
       have HO0_3 := n0_
       have HO0_4 := n1_
       have HO275 := n2_
       have BK272 := n3_
       have HB := n4_
       clear n0_ n1_ n2_ n3_ n4_
       (try clear hb)
       (try clear hb2)
       (try clear hk)
       (try clear hi)
       refine hK.out _ _ (bc5_ BK272) (fun hHeld => ?_)
       clear hK K
       refine no_ (some 7) ?_
       refine pu_ 3 (some 8) (fb 17 15) HT_ ?_
       refine pu_ 4 (some 9) (fb 17 31) HT_ ?_
       refine one_ (i := 5) (N := some 10) (fb 17 63) rfl rfl (one_of HT_.out (by kernel_rfl)) (by decide) (fun K hK => ?_)
       refine goes_ Try.func61 (by kernel_rfl) rfl #[.slice A1 l1.length c1] (by rfl) rfl rfl (by (try simp only [List.map_toArray, List.map_cons, List.map_nil]); first | done | rfl | (simp only [List.length_drop, List.length_take]; rfl)) ?_
       with_reducible refine (heap_Right.calls _ _ l1 true _ ?side1 ?side2 A5.out).mono ?_
       (case side1 => repeat (first | exact (Kd.C_below HR1.out HB.out) | with_reducible first | refine Kd.C_alloc ?_ _ | refine Kd.C_drewN ?_ _ | refine Kd.C_drew ?_))
       (case side2 => exact HC1.out)
       rintro e w15 ⟨rfl, hb⟩
       refine ⟨_, rfl, ?_⟩
       have n0_ := vb_ HO0_3 hb
       have n1_ := vb_ HO0_4 hb
       have n2_ := nb_ HO275 hb
       have n3_ := bb_ BK272 hb
       have n4_ := ak (below_step bsw_ hb)
       clear HO0_3
       clear HO0_4
       clear HO275
       clear BK272
       clear HB
       have HO0_3 := n0_
       have HO0_4 := n1_
       have HO275 := n2_
       have BK272 := n3_
       have HB := n4_
       clear n0_ n1_ n2_ n3_ n4_
       (try clear hb)
       (try clear hb2)
       (try clear hk)
       (try clear hi)
       refine hK.out _ _ (bc5_ BK272) (fun hHeld => ?_)
       clear hK K
       refine no_ (some 10) ?_
       refine pu_ 6 (some 11) (fb 17 127) HT_ ?_
       refine pu_ 7 (some 12) (fb 17 255) HT_ ?_
       refine pu_ 9 (some 14) (fb 17 767) HT_ ?_
       refine pu_ 13 (some 18) (fb 17 8959) HT_ ?_
       refine ta5_ 10 (some 15) (fb 17 9983) HT_ HW_ hHeld ?_
       refine ta5_ 12 (some 17) (fb 17 14079) HT_ HW_ hHeld ?_
       refine one_ (i := 8) (N := some 13) (fb 17 14335) rfl rfl (one_of HT_.out (by kernel_rfl)) (by decide) (fun K hK => ?_)
       refine goes_ Try.func62 (by kernel_rfl) rfl #[] (by rfl) rfl rfl Array.map_empty ?_
       with_reducible refine (filter_ways.calls _).mono ?_
       rintro e wm_ ⟨gm, rfl, hm_, hb⟩
       refine ⟨_, rfl, ?_⟩
       have n0_ := vb_ HO0_3 hb
       have n1_ := vb_ HO0_4 hb
       have n2_ := nb_ HO275 hb
       have n3_ := bb_ BK272 hb
       have n4_ := ak (below_step bsw_ hb)
       clear HO0_3
       clear HO0_4
       clear HO275
       clear BK272
       clear HB
       have HO0_3 := n0_
       have HO0_4 := n1_
       have HO275 := n2_
       have BK272 := n3_
       have HB := n4_
       clear n0_ n1_ n2_ n3_ n4_
       (try clear hb)
       (try clear hb2)
       (try clear hk)
       (try clear hi)
       refine hK.out _ _ (bc5_ BK272) (fun hHeld => ?_)
       clear hK K
       refine no_ (some 13) ?_
       refine one_ (i := 11) (N := some 16) (fb 17 16383) rfl rfl (one_of HT_.out (by kernel_rfl)) (by decide) (fun K hK => ?_)
       refine Mp.look_ (mt := 100) (kt := 3) (et := 69) (by kernel_rfl) (by kernel_rfl) (by rfl) rfl rfl (by rfl) (by rfl) hm_ (i := 0) (v := .func (.func 90) #[] #[]) (by rw [show a0_1 = 1 by first | assumption | exact eq_of_beq (by assumption)]; rfl) ?_
       refine hK.out _ _ (bc5_ BK272) (fun hHeld => ?_)
       clear hK K
       refine no_ (some 16) ?_
       refine one_ (i := 14) (N := some 19) (fb 17 32767) rfl rfl (one_of HT_.out (by kernel_rfl)) (by decide) (fun K hK => ?_)
       refine Mp.goesV_ Try.func90 (by kernel_rfl) rfl #[.agg #[.int .i64 a0_0, .int .i64 a0_1, .int .i64 a0_2, .slice A0_3 l0_3.length c0_3, .slice A0_4 l0_4.length c0_4], .slice A1 l1.length c1] (by rfl) rfl rfl (by (try simp only [List.map_toArray, List.map_cons, List.map_nil]); first | done | rfl | (simp only [List.length_drop, List.length_take]; rfl)) ?_
       with_reducible refine (filter_always.calls a0_0 a0_1 a0_2 _ _ l0_3 _ _ l0_4 _ _ l1 t278 _ ?side1 ?side2 ?side3 ?side4 ?side5 ?side6 A8.out).mono ?_
       (case side1 => exact vc_ HO0_3)
       (case side2 => exact vl_ HO0_3)
       (case side3 => exact vc_ HO0_4)
       (case side4 => exact vl_ HO0_4)
       (case side5 => repeat (first | exact (Kd.C_below HR1.out HB.out) | with_reducible first | refine Kd.C_alloc ?_ _ | refine Kd.C_drewN ?_ _ | refine Kd.C_drew ?_))
       (case side6 => exact HC1.out)
       rintro e w16 ⟨rfl, hb⟩
       refine ⟨_, rfl, ?_⟩
       have n0_ := vb_ HO0_3 hb
       have n1_ := vb_ HO0_4 hb
       have n2_ := nb_ HO275 hb
       have n3_ := bb_ BK272 hb
       have n4_ := ak (below_step bsw_ hb)
       clear HO0_3
       clear HO0_4
       clear HO275
       clear BK272
       clear HB
       have HO0_3 := n0_
       have HO0_4 := n1_
       have HO275 := n2_
       have BK272 := n3_
       have HB := n4_
       clear n0_ n1_ n2_ n3_ n4_
       (try clear hb)
       (try clear hb2)
       (try clear hk)
       (try clear hi)
       refine hK.out _ _ (bc5_ BK272) (fun hHeld => ?_)
       clear hK K
       refine no_ (some 19) ?_
       refine pu_ 15 (some 20) (fb 17 65535) HT_ ?_
       refine pu_ 16 (some 4) (fb 17 131071) HT_ ?_
       refine done_ (done_of HT_.out (by kernel_rfl)) ?_
       try go_wp2
       go_ret
       exact ⟨by first | rfl | (simp [errW_none, errW_some] <;> rfl) | (simp [*, errW_none, errW_some] <;> rfl), bsw_⟩
     · rw [if_neg c7] at H
       have c7b0 : (a0_1 == 1) = false := beq_eq_false_iff_ne.mpr c7
       have c7b1 : (a0_1 != 1) = true := bne_iff_ne.mpr c7
       by_cases c17 : a0_1 = 2
       · rw [if_pos c17] at H
         have c17b0 : (a0_1 == 2) = true := beq_iff_eq.mpr c17
         have c17b1 : (a0_1 != 2) = false := bne_eq_false_iff_eq.mpr c17
         clear c17
         obtain ⟨t279, A18, H⟩ := bd_ H
         obtain rfl := Option.some.inj H
         go_enter Try.func37, Try.ntmps37
         try go_wp2_with (first | ((with_reducible refine gate_dst (N := 2) rfl ?_); refine box_event ?hg (N := 2) ?hd (cs := #[.int .i64 a0_0, .int .i64 a0_1, .int .i64 a0_2, .slice A0_3 l0_3.length c0_3, .slice A0_4 l0_4.length c0_4]) (t := 26) ?hr ?_; (case hd => rfl); (case hg => rfl); (case hr => first | (go_simp; done) | (go_simp; rfl)); intro gb272 hg w19 hbox hb; replace HO0_3 := ak (Kd.V_below (Kd.V_elderB (vq_ HO0_3) gb272 (Nat.le_of_eq hg.symm)) hb); replace HO0_4 := ak (Kd.V_below (Kd.V_elderB (vq_ HO0_4) gb272 (Nat.le_of_eq hg.symm)) hb); replace BK272 := ak (hbox); replace GW272 := ak ((by rw [hg]; exact bsz_ : w.heap.size ≤ gb272)); replace HB := ak (bst_ hb); replace GE272 := GW272; clear hb hbox hg))
         have n0_ := ak (Kd.V_drew HO0_3.out)
         have n1_ := ak (Kd.V_drew HO0_4.out)
         have n2_ := ak (blk_drew BK272.out)
         have n3_ := ak (below_drew1 HB.out)
         clear HO0_3
         clear HO0_4
         clear BK272
         clear HB
         have HO0_3 := n0_
         have HO0_4 := n1_
         have BK272 := n2_
         have HB := n3_
         clear n0_ n1_ n2_ n3_
         refine start_ (n := 17) (S := fun w' => w'.cell? ⟨gb272, 0, none⟩ = some (.int .i64 a0_0) ∧ w'.cell? ⟨gb272, 1, none⟩ = some (.int .i64 a0_1) ∧ w'.cell? ⟨gb272, 2, none⟩ = some (.int .i64 a0_2) ∧ w'.cell? ⟨gb272, 3, none⟩ = some (.slice A0_3 l0_3.length c0_3) ∧ w'.cell? ⟨gb272, 4, none⟩ = some (.slice A0_4 l0_4.length c0_4)) (ds := []) (fb 17 0) (by kernel_rfl) rfl rfl ⟨(blk_cell BK272.out 0).trans rfl, (blk_cell BK272.out 1).trans rfl, (blk_cell BK272.out 2).trans rfl, (blk_cell BK272.out 3).trans rfl, (blk_cell BK272.out 4).trans rfl⟩ (fun hHeld => ?_); refine with_tabW filter_May.tab1 filter_May.bits1 (fun HT_ HW_ => ?_)
         generalize w19.drew = w20 at HO0_3 HO0_4 BK272 HB hHeld ⊢
         refine ta5_ 0 (some 5) (fb 17 1) HT_ HW_ hHeld ?_
         refine one_ (i := 1) (N := some 6) (fb 17 3) rfl rfl (one_of HT_.out (by kernel_rfl)) (by decide) (fun K hK => ?_)
         refine Kd.N_lit_step k26 _ 26 ?hg (N' := 6) ?hd (xs := ([(⟨a0_0, a0_1, a0_2, l0_3, l0_4⟩ : S26)] : List (S26))) (inner := [.int .i64 a0_0, .int .i64 a0_1, .int .i64 a0_2, .slice A0_3 l0_3.length c0_3, .slice A0_4 l0_4.length c0_4]) (ok := (fun k_ => ((P0_3_ k_ ∨ P0_4_ k_) ∨ w.heap.size ≤ k_) ∧ k_ ≠ gb272)) (okp := (fun k_ => ((P0_3_ k_ ∨ P0_4_ k_) ∨ w.heap.size ≤ k_) ∧ k_ ≠ gb272)) ?hr ?hp (fun _ hk => hk) ((show ∀ k_, w20.heap.size ≤ k_ → (fun k_ => ((P0_3_ k_ ∨ P0_4_ k_) ∨ w.heap.size ≤ k_) ∧ k_ ≠ gb272) k_ from fun k_ hk => ⟨(.inr (Nat.le_trans (below_size bsw_) hk)), Kd.freshB (g := gb272) (o := .cells #[.int .i64 a0_0, .int .i64 a0_1, .int .i64 a0_2, .slice A0_3 l0_3.length c0_3, .slice A0_4 l0_4.length c0_4] 26 (0, 0)) (bq_ BK272) k_ hk⟩) _ (Nat.le_refl _)) (Below.refl _ _) (Nat.le_refl _) (by simp) ?_; (case hd => rfl); (case hg => rfl); (case hr => first | (go_simp; done) | (go_simp; rfl)); (case hp => exact (Reps.c5 (show Kd.FK k26 _ _ (⟨a0_0, a0_1, a0_2, l0_3, l0_4⟩ : S26) [.int .i64 a0_0, .int .i64 a0_1, .int .i64 a0_2, .slice A0_3 l0_3.length c0_3, .slice A0_4 l0_4.length c0_4] from (k26_mkF _ _ (⟨a0_0, a0_1, a0_2, l0_3, l0_4⟩ : S26) (Kd.V_reads' (Kd.V_mono (ok' := (fun k_ => ((P0_3_ k_ ∨ P0_4_ k_) ∨ w.heap.size ≤ k_) ∧ k_ ≠ gb272)) (HO0_3.out) (fun k_ hk => ⟨hk.1, hk.2⟩))).2.1 (Kd.V_F (Kd.V_mono (ok' := (fun k_ => ((P0_3_ k_ ∨ P0_4_ k_) ∨ w.heap.size ≤ k_) ∧ k_ ≠ gb272)) (HO0_3.out) (fun k_ hk => ⟨hk.1, hk.2⟩))) (Kd.V_reads' (Kd.V_mono (ok' := (fun k_ => ((P0_3_ k_ ∨ P0_4_ k_) ∨ w.heap.size ≤ k_) ∧ k_ ≠ gb272)) (HO0_4.out) (fun k_ hk => ⟨hk.1, hk.2⟩))).2.1 (Kd.V_F (Kd.V_mono (ok' := (fun k_ => ((P0_3_ k_ ∨ P0_4_ k_) ∨ w.heap.size ≤ k_) ∧ k_ ≠ gb272)) (HO0_4.out) (fun k_ hk => ⟨hk.1, hk.2⟩))))) (Reps.none _ _)))
         intro v274 w21 ho22 hb hg_ hnew_
         clear hg_ hnew_
         (first | rw [← Ny273.out] at ho22 | (simp only [Int.reduceToNat] at ho22; rw [← Ny273.out] at ho22))
         have n0_ := ak (Kd.V_elder' (vq_ HO0_3) (Kd.N_base ho22) hb)
         have n1_ := ak (Kd.V_elder' (vq_ HO0_4) (Kd.N_base ho22) hb)
         have n2_ := ak (Kd.N_lower ho22 (below_size bsw_))
         have n3_ := bb_ BK272 hb
         have n4_ := ak (below_step bsw_ hb)
         clear HO0_3
         clear HO0_4
         clear BK272
         clear HB
         have HO0_3 := n0_
         have HO0_4 := n1_
         have HO275 := n2_
         have BK272 := n3_
         have HB := n4_
         clear n0_ n1_ n2_ n3_ n4_
         clear hb ho22
         obtain ⟨Ao23, co23, eo23⟩ := Kd.N_slice HO275.out
         (first | subst eo23 | (injection eo23 with f1_ f2_ f3_; have f4_ := f1_.symm; have f5_ := f3_.symm; clear f1_ f2_ f3_; subst f4_; subst f5_))
         refine hK.out _ _ (bc5_ BK272) (fun hHeld => ?_)
         clear hK K
         refine no_ (some 6) ?_
         refine one_ (i := 2) (N := some 7) (fb 17 7) rfl rfl (one_of HT_.out (by kernel_rfl)) (by decide) (fun K hK => ?_)
         refine goes_ Try.func26 (by kernel_rfl) rfl #[.slice Ao23 y273.length co23] (by rfl) rfl rfl (by (try simp only [List.map_toArray, List.map_cons, List.map_nil]); first | done | rfl | (simp only [List.length_drop, List.length_take]; rfl)) ?_
         with_reducible refine (sleep_Right.calls k _ _ y273 true _ ?side1 ?side2 A3.out).mono ?_
         (case side1 => repeat (first | exact (Kd.N_reads' HO275.out).2.2 | with_reducible first | refine Kd.C_alloc ?_ _ | refine Kd.C_drewN ?_ _ | refine Kd.C_drew ?_))
         (case side2 => exact (Kd.N_reads' HO275.out).2.1)
         rintro e w24 ⟨rfl, hb⟩
         refine ⟨_, rfl, ?_⟩
         have n0_ := vb_ HO0_3 hb
         have n1_ := vb_ HO0_4 hb
         have n2_ := nb_ HO275 hb
         have n3_ := bb_ BK272 hb
         have n4_ := ak (below_step bsw_ hb)
         clear HO0_3
         clear HO0_4
         clear HO275
         clear BK272
         clear HB
         have HO0_3 := n0_
         have HO0_4 := n1_
         have HO275 := n2_
         have BK272 := n3_
         have HB := n4_
         clear n0_ n1_ n2_ n3_ n4_
         (try clear hb)
         (try clear hb2)
         (try clear hk)
         (try clear hi)
         refine hK.out _ _ (bc5_ BK272) (fun hHeld => ?_)
         clear hK K
         refine no_ (some 7) ?_
         refine pu_ 3 (some 8) (fb 17 15) HT_ ?_
         refine pu_ 4 (some 9) (fb 17 31) HT_ ?_
         refine one_ (i := 5) (N := some 10) (fb 17 63) rfl rfl (one_of HT_.out (by kernel_rfl)) (by decide) (fun K hK => ?_)
         refine goes_ Try.func61 (by kernel_rfl) rfl #[.slice A1 l1.length c1] (by rfl) rfl rfl (by (try simp only [List.map_toArray, List.map_cons, List.map_nil]); first | done | rfl | (simp only [List.length_drop, List.length_take]; rfl)) ?_
         with_reducible refine (heap_Right.calls _ _ l1 true _ ?side1 ?side2 A5.out).mono ?_
         (case side1 => repeat (first | exact (Kd.C_below HR1.out HB.out) | with_reducible first | refine Kd.C_alloc ?_ _ | refine Kd.C_drewN ?_ _ | refine Kd.C_drew ?_))
         (case side2 => exact HC1.out)
         rintro e w25 ⟨rfl, hb⟩
         refine ⟨_, rfl, ?_⟩
         have n0_ := vb_ HO0_3 hb
         have n1_ := vb_ HO0_4 hb
         have n2_ := nb_ HO275 hb
         have n3_ := bb_ BK272 hb
         have n4_ := ak (below_step bsw_ hb)
         clear HO0_3
         clear HO0_4
         clear HO275
         clear BK272
         clear HB
         have HO0_3 := n0_
         have HO0_4 := n1_
         have HO275 := n2_
         have BK272 := n3_
         have HB := n4_
         clear n0_ n1_ n2_ n3_ n4_
         (try clear hb)
         (try clear hb2)
         (try clear hk)
         (try clear hi)
         refine hK.out _ _ (bc5_ BK272) (fun hHeld => ?_)
         clear hK K
         refine no_ (some 10) ?_
         refine pu_ 6 (some 11) (fb 17 127) HT_ ?_
         refine pu_ 7 (some 12) (fb 17 255) HT_ ?_
         refine pu_ 9 (some 14) (fb 17 767) HT_ ?_
         refine pu_ 13 (some 18) (fb 17 8959) HT_ ?_
         refine ta5_ 10 (some 15) (fb 17 9983) HT_ HW_ hHeld ?_
         refine ta5_ 12 (some 17) (fb 17 14079) HT_ HW_ hHeld ?_
         refine one_ (i := 8) (N := some 13) (fb 17 14335) rfl rfl (one_of HT_.out (by kernel_rfl)) (by decide) (fun K hK => ?_)
         refine goes_ Try.func62 (by kernel_rfl) rfl #[] (by rfl) rfl rfl Array.map_empty ?_
         with_reducible refine (filter_ways.calls _).mono ?_
         rintro e wm_ ⟨gm, rfl, hm_, hb⟩
         refine ⟨_, rfl, ?_⟩
         have n0_ := vb_ HO0_3 hb
         have n1_ := vb_ HO0_4 hb
         have n2_ := nb_ HO275 hb
         have n3_ := bb_ BK272 hb
         have n4_ := ak (below_step bsw_ hb)
         clear HO0_3
         clear HO0_4
         clear HO275
         clear BK272
         clear HB
         have HO0_3 := n0_
         have HO0_4 := n1_
         have HO275 := n2_
         have BK272 := n3_
         have HB := n4_
         clear n0_ n1_ n2_ n3_ n4_
         (try clear hb)
         (try clear hb2)
         (try clear hk)
         (try clear hi)
         refine hK.out _ _ (bc5_ BK272) (fun hHeld => ?_)
         clear hK K
         refine no_ (some 13) ?_
         refine one_ (i := 11) (N := some 16) (fb 17 16383) rfl rfl (one_of HT_.out (by kernel_rfl)) (by decide) (fun K hK => ?_)
         refine Mp.look_ (mt := 100) (kt := 3) (et := 69) (by kernel_rfl) (by kernel_rfl) (by rfl) rfl rfl (by rfl) (by rfl) hm_ (i := 1) (v := .func (.func 91) #[] #[]) (by rw [show a0_1 = 2 by first | assumption | exact eq_of_beq (by assumption)]; rfl) ?_
         refine hK.out _ _ (bc5_ BK272) (fun hHeld => ?_)
         clear hK K
         refine no_ (some 16) ?_
         refine one_ (i := 14) (N := some 19) (fb 17 32767) rfl rfl (one_of HT_.out (by kernel_rfl)) (by decide) (fun K hK => ?_)
         refine Mp.goesV_ Try.func91 (by kernel_rfl) rfl #[.agg #[.int .i64 a0_0, .int .i64 a0_1, .int .i64 a0_2, .slice A0_3 l0_3.length c0_3, .slice A0_4 l0_4.length c0_4], .slice A1 l1.length c1] (by rfl) rfl rfl (by (try simp only [List.map_toArray, List.map_cons, List.map_nil]); first | done | rfl | (simp only [List.length_drop, List.length_take]; rfl)) ?_
         with_reducible refine (filter_changed.calls a0_0 a0_1 a0_2 _ _ l0_3 _ _ l0_4 _ _ l1 t279 _ ?side1 ?side2 ?side3 ?side4 ?side5 ?side6 A18.out).mono ?_
         (case side1 => exact vc_ HO0_3)
         (case side2 => exact vl_ HO0_3)
         (case side3 => exact vc_ HO0_4)
         (case side4 => exact vl_ HO0_4)
         (case side5 => repeat (first | exact (Kd.C_below HR1.out HB.out) | with_reducible first | refine Kd.C_alloc ?_ _ | refine Kd.C_drewN ?_ _ | refine Kd.C_drew ?_))
         (case side6 => exact HC1.out)
         rintro e w26 ⟨rfl, hb⟩
         refine ⟨_, rfl, ?_⟩
         have n0_ := vb_ HO0_3 hb
         have n1_ := vb_ HO0_4 hb
         have n2_ := nb_ HO275 hb
         have n3_ := bb_ BK272 hb
         have n4_ := ak (below_step bsw_ hb)
         clear HO0_3
         clear HO0_4
         clear HO275
         clear BK272
         clear HB
         have HO0_3 := n0_
         have HO0_4 := n1_
         have HO275 := n2_
         have BK272 := n3_
         have HB := n4_
         clear n0_ n1_ n2_ n3_ n4_
         (try clear hb)
         (try clear hb2)
         (try clear hk)
         (try clear hi)
         refine hK.out _ _ (bc5_ BK272) (fun hHeld => ?_)
         clear hK K
         refine no_ (some 19) ?_
         refine pu_ 15 (some 20) (fb 17 65535) HT_ ?_
         refine pu_ 16 (some 4) (fb 17 131071) HT_ ?_
         refine done_ (done_of HT_.out (by kernel_rfl)) ?_
         try go_wp2
         go_ret
         exact ⟨by first | rfl | (simp [errW_none, errW_some] <;> rfl) | (simp [*, errW_none, errW_some] <;> rfl), bsw_⟩
       · rw [if_neg c17] at H
         have c17b0 : (a0_1 == 2) = false := beq_eq_false_iff_ne.mpr c17
         have c17b1 : (a0_1 != 2) = true := bne_iff_ne.mpr c17
         by_cases c27 : a0_1 = 3
         · rw [if_pos c27] at H
           have c27b0 : (a0_1 == 3) = true := beq_iff_eq.mpr c27
           have c27b1 : (a0_1 != 3) = false := bne_eq_false_iff_eq.mpr c27
           clear c27
           obtain ⟨t280, A28, H⟩ := bd_ H
           obtain rfl := Option.some.inj H
           go_enter Try.func37, Try.ntmps37
           try go_wp2_with (first | ((with_reducible refine gate_dst (N := 2) rfl ?_); refine box_event ?hg (N := 2) ?hd (cs := #[.int .i64 a0_0, .int .i64 a0_1, .int .i64 a0_2, .slice A0_3 l0_3.length c0_3, .slice A0_4 l0_4.length c0_4]) (t := 26) ?hr ?_; (case hd => rfl); (case hg => rfl); (case hr => first | (go_simp; done) | (go_simp; rfl)); intro gb272 hg w29 hbox hb; replace HO0_3 := ak (Kd.V_below (Kd.V_elderB (vq_ HO0_3) gb272 (Nat.le_of_eq hg.symm)) hb); replace HO0_4 := ak (Kd.V_below (Kd.V_elderB (vq_ HO0_4) gb272 (Nat.le_of_eq hg.symm)) hb); replace BK272 := ak (hbox); replace GW272 := ak ((by rw [hg]; exact bsz_ : w.heap.size ≤ gb272)); replace HB := ak (bst_ hb); replace GE272 := GW272; clear hb hbox hg))
           have n0_ := ak (Kd.V_drew HO0_3.out)
           have n1_ := ak (Kd.V_drew HO0_4.out)
           have n2_ := ak (blk_drew BK272.out)
           have n3_ := ak (below_drew1 HB.out)
           clear HO0_3
           clear HO0_4
           clear BK272
           clear HB
           have HO0_3 := n0_
           have HO0_4 := n1_
           have BK272 := n2_
           have HB := n3_
           clear n0_ n1_ n2_ n3_
           refine start_ (n := 17) (S := fun w' => w'.cell? ⟨gb272, 0, none⟩ = some (.int .i64 a0_0) ∧ w'.cell? ⟨gb272, 1, none⟩ = some (.int .i64 a0_1) ∧ w'.cell? ⟨gb272, 2, none⟩ = some (.int .i64 a0_2) ∧ w'.cell? ⟨gb272, 3, none⟩ = some (.slice A0_3 l0_3.length c0_3) ∧ w'.cell? ⟨gb272, 4, none⟩ = some (.slice A0_4 l0_4.length c0_4)) (ds := []) (fb 17 0) (by kernel_rfl) rfl rfl ⟨(blk_cell BK272.out 0).trans rfl, (blk_cell BK272.out 1).trans rfl, (blk_cell BK272.out 2).trans rfl, (blk_cell BK272.out 3).trans rfl, (blk_cell BK272.out 4).trans rfl⟩ (fun hHeld => ?_); refine with_tabW filter_May.tab1 filter_May.bits1 (fun HT_ HW_ => ?_)
           generalize w29.drew = w30 at HO0_3 HO0_4 BK272 HB hHeld ⊢
           refine ta5_ 0 (some 5) (fb 17 1) HT_ HW_ hHeld ?_
           refine one_ (i := 1) (N := some 6) (fb 17 3) rfl rfl (one_of HT_.out (by kernel_rfl)) (by decide) (fun K hK => ?_)
           refine Kd.N_lit_step k26 _ 26 ?hg (N' := 6) ?hd (xs := ([(⟨a0_0, a0_1, a0_2, l0_3, l0_4⟩ : S26)] : List (S26))) (inner := [.int .i64 a0_0, .int .i64 a0_1, .int .i64 a0_2, .slice A0_3 l0_3.length c0_3, .slice A0_4 l0_4.length c0_4]) (ok := (fun k_ => ((P0_3_ k_ ∨ P0_4_ k_) ∨ w.heap.size ≤ k_) ∧ k_ ≠ gb272)) (okp := (fun k_ => ((P0_3_ k_ ∨ P0_4_ k_) ∨ w.heap.size ≤ k_) ∧ k_ ≠ gb272)) ?hr ?hp (fun _ hk => hk) ((show ∀ k_, w30.heap.size ≤ k_ → (fun k_ => ((P0_3_ k_ ∨ P0_4_ k_) ∨ w.heap.size ≤ k_) ∧ k_ ≠ gb272) k_ from fun k_ hk => ⟨(.inr (Nat.le_trans (below_size bsw_) hk)), Kd.freshB (g := gb272) (o := .cells #[.int .i64 a0_0, .int .i64 a0_1, .int .i64 a0_2, .slice A0_3 l0_3.length c0_3, .slice A0_4 l0_4.length c0_4] 26 (0, 0)) (bq_ BK272) k_ hk⟩) _ (Nat.le_refl _)) (Below.refl _ _) (Nat.le_refl _) (by simp) ?_; (case hd => rfl); (case hg => rfl); (case hr => first | (go_simp; done) | (go_simp; rfl)); (case hp => exact (Reps.c5 (show Kd.FK k26 _ _ (⟨a0_0, a0_1, a0_2, l0_3, l0_4⟩ : S26) [.int .i64 a0_0, .int .i64 a0_1, .int .i64 a0_2, .slice A0_3 l0_3.length c0_3, .slice A0_4 l0_4.length c0_4] from (k26_mkF _ _ (⟨a0_0, a0_1, a0_2, l0_3, l0_4⟩ : S26) (Kd.V_reads' (Kd.V_mono (ok' := (fun k_ => ((P0_3_ k_ ∨ P0_4_ k_) ∨ w.heap.size ≤ k_) ∧ k_ ≠ gb272)) (HO0_3.out) (fun k_ hk => ⟨hk.1, hk.2⟩))).2.1 (Kd.V_F (Kd.V_mono (ok' := (fun k_ => ((P0_3_ k_ ∨ P0_4_ k_) ∨ w.heap.size ≤ k_) ∧ k_ ≠ gb272)) (HO0_3.out) (fun k_ hk => ⟨hk.1, hk.2⟩))) (Kd.V_reads' (Kd.V_mono (ok' := (fun k_ => ((P0_3_ k_ ∨ P0_4_ k_) ∨ w.heap.size ≤ k_) ∧ k_ ≠ gb272)) (HO0_4.out) (fun k_ hk => ⟨hk.1, hk.2⟩))).2.1 (Kd.V_F (Kd.V_mono (ok' := (fun k_ => ((P0_3_ k_ ∨ P0_4_ k_) ∨ w.heap.size ≤ k_) ∧ k_ ≠ gb272)) (HO0_4.out) (fun k_ hk => ⟨hk.1, hk.2⟩))))) (Reps.none _ _)))
           intro v274 w31 ho32 hb hg_ hnew_
           clear hg_ hnew_
           (first | rw [← Ny273.out] at ho32 | (simp only [Int.reduceToNat] at ho32; rw [← Ny273.out] at ho32))
           have n0_ := ak (Kd.V_elder' (vq_ HO0_3) (Kd.N_base ho32) hb)
           have n1_ := ak (Kd.V_elder' (vq_ HO0_4) (Kd.N_base ho32) hb)
           have n2_ := ak (Kd.N_lower ho32 (below_size bsw_))
           have n3_ := bb_ BK272 hb
           have n4_ := ak (below_step bsw_ hb)
           clear HO0_3
           clear HO0_4
           clear BK272
           clear HB
           have HO0_3 := n0_
           have HO0_4 := n1_
           have HO275 := n2_
           have BK272 := n3_
           have HB := n4_
           clear n0_ n1_ n2_ n3_ n4_
           clear hb ho32
           obtain ⟨Ao33, co33, eo33⟩ := Kd.N_slice HO275.out
           (first | subst eo33 | (injection eo33 with f1_ f2_ f3_; have f4_ := f1_.symm; have f5_ := f3_.symm; clear f1_ f2_ f3_; subst f4_; subst f5_))
           refine hK.out _ _ (bc5_ BK272) (fun hHeld => ?_)
           clear hK K
           refine no_ (some 6) ?_
           refine one_ (i := 2) (N := some 7) (fb 17 7) rfl rfl (one_of HT_.out (by kernel_rfl)) (by decide) (fun K hK => ?_)
           refine goes_ Try.func26 (by kernel_rfl) rfl #[.slice Ao33 y273.length co33] (by rfl) rfl rfl (by (try simp only [List.map_toArray, List.map_cons, List.map_nil]); first | done | rfl | (simp only [List.length_drop, List.length_take]; rfl)) ?_
           with_reducible refine (sleep_Right.calls k _ _ y273 true _ ?side1 ?side2 A3.out).mono ?_
           (case side1 => repeat (first | exact (Kd.N_reads' HO275.out).2.2 | with_reducible first | refine Kd.C_alloc ?_ _ | refine Kd.C_drewN ?_ _ | refine Kd.C_drew ?_))
           (case side2 => exact (Kd.N_reads' HO275.out).2.1)
           rintro e w34 ⟨rfl, hb⟩
           refine ⟨_, rfl, ?_⟩
           have n0_ := vb_ HO0_3 hb
           have n1_ := vb_ HO0_4 hb
           have n2_ := nb_ HO275 hb
           have n3_ := bb_ BK272 hb
           have n4_ := ak (below_step bsw_ hb)
           clear HO0_3
           clear HO0_4
           clear HO275
           clear BK272
           clear HB
           have HO0_3 := n0_
           have HO0_4 := n1_
           have HO275 := n2_
           have BK272 := n3_
           have HB := n4_
           clear n0_ n1_ n2_ n3_ n4_
           (try clear hb)
           (try clear hb2)
           (try clear hk)
           (try clear hi)
           refine hK.out _ _ (bc5_ BK272) (fun hHeld => ?_)
           clear hK K
           refine no_ (some 7) ?_
           refine pu_ 3 (some 8) (fb 17 15) HT_ ?_
           refine pu_ 4 (some 9) (fb 17 31) HT_ ?_
           refine one_ (i := 5) (N := some 10) (fb 17 63) rfl rfl (one_of HT_.out (by kernel_rfl)) (by decide) (fun K hK => ?_)
           refine goes_ Try.func61 (by kernel_rfl) rfl #[.slice A1 l1.length c1] (by rfl) rfl rfl (by (try simp only [List.map_toArray, List.map_cons, List.map_nil]); first | done | rfl | (simp only [List.length_drop, List.length_take]; rfl)) ?_
           with_reducible refine (heap_Right.calls _ _ l1 true _ ?side1 ?side2 A5.out).mono ?_
           (case side1 => repeat (first | exact (Kd.C_below HR1.out HB.out) | with_reducible first | refine Kd.C_alloc ?_ _ | refine Kd.C_drewN ?_ _ | refine Kd.C_drew ?_))
           (case side2 => exact HC1.out)
           rintro e w35 ⟨rfl, hb⟩
           refine ⟨_, rfl, ?_⟩
           have n0_ := vb_ HO0_3 hb
           have n1_ := vb_ HO0_4 hb
           have n2_ := nb_ HO275 hb
           have n3_ := bb_ BK272 hb
           have n4_ := ak (below_step bsw_ hb)
           clear HO0_3
           clear HO0_4
           clear HO275
           clear BK272
           clear HB
           have HO0_3 := n0_
           have HO0_4 := n1_
           have HO275 := n2_
           have BK272 := n3_
           have HB := n4_
           clear n0_ n1_ n2_ n3_ n4_
           (try clear hb)
           (try clear hb2)
           (try clear hk)
           (try clear hi)
           refine hK.out _ _ (bc5_ BK272) (fun hHeld => ?_)
           clear hK K
           refine no_ (some 10) ?_
           refine pu_ 6 (some 11) (fb 17 127) HT_ ?_
           refine pu_ 7 (some 12) (fb 17 255) HT_ ?_
           refine pu_ 9 (some 14) (fb 17 767) HT_ ?_
           refine pu_ 13 (some 18) (fb 17 8959) HT_ ?_
           refine ta5_ 10 (some 15) (fb 17 9983) HT_ HW_ hHeld ?_
           refine ta5_ 12 (some 17) (fb 17 14079) HT_ HW_ hHeld ?_
           refine one_ (i := 8) (N := some 13) (fb 17 14335) rfl rfl (one_of HT_.out (by kernel_rfl)) (by decide) (fun K hK => ?_)
           refine goes_ Try.func62 (by kernel_rfl) rfl #[] (by rfl) rfl rfl Array.map_empty ?_
           with_reducible refine (filter_ways.calls _).mono ?_
           rintro e wm_ ⟨gm, rfl, hm_, hb⟩
           refine ⟨_, rfl, ?_⟩
           have n0_ := vb_ HO0_3 hb
           have n1_ := vb_ HO0_4 hb
           have n2_ := nb_ HO275 hb
           have n3_ := bb_ BK272 hb
           have n4_ := ak (below_step bsw_ hb)
           clear HO0_3
           clear HO0_4
           clear HO275
           clear BK272
           clear HB
           have HO0_3 := n0_
           have HO0_4 := n1_
           have HO275 := n2_
           have BK272 := n3_
           have HB := n4_
           clear n0_ n1_ n2_ n3_ n4_
           (try clear hb)
           (try clear hb2)
           (try clear hk)
           (try clear hi)
           refine hK.out _ _ (bc5_ BK272) (fun hHeld => ?_)
           clear hK K
           refine no_ (some 13) ?_
           refine one_ (i := 11) (N := some 16) (fb 17 16383) rfl rfl (one_of HT_.out (by kernel_rfl)) (by decide) (fun K hK => ?_)
           refine Mp.look_ (mt := 100) (kt := 3) (et := 69) (by kernel_rfl) (by kernel_rfl) (by rfl) rfl rfl (by rfl) (by rfl) hm_ (i := 2) (v := .func (.func 92) #[] #[]) (by rw [show a0_1 = 3 by first | assumption | exact eq_of_beq (by assumption)]; rfl) ?_
           refine hK.out _ _ (bc5_ BK272) (fun hHeld => ?_)
           clear hK K
           refine no_ (some 16) ?_
           refine one_ (i := 14) (N := some 19) (fb 17 32767) rfl rfl (one_of HT_.out (by kernel_rfl)) (by decide) (fun K hK => ?_)
           refine Mp.goesV_ Try.func92 (by kernel_rfl) rfl #[.agg #[.int .i64 a0_0, .int .i64 a0_1, .int .i64 a0_2, .slice A0_3 l0_3.length c0_3, .slice A0_4 l0_4.length c0_4], .slice A1 l1.length c1] (by rfl) rfl rfl (by (try simp only [List.map_toArray, List.map_cons, List.map_nil]); first | done | rfl | (simp only [List.length_drop, List.length_take]; rfl)) ?_
           with_reducible refine (filter_holds.calls k a0_0 a0_1 a0_2 _ _ l0_3 _ _ l0_4 _ _ l1 t280 _ ?side1 ?side2 ?side3 ?side4 ?side5 ?side6 A28.out).mono ?_
           (case side1 => exact vc_ HO0_3)
           (case side2 => exact vl_ HO0_3)
           (case side3 => exact vc_ HO0_4)
           (case side4 => exact vl_ HO0_4)
           (case side5 => repeat (first | exact (Kd.C_below HR1.out HB.out) | with_reducible first | refine Kd.C_alloc ?_ _ | refine Kd.C_drewN ?_ _ | refine Kd.C_drew ?_))
           (case side6 => exact HC1.out)
           rintro e w36 ⟨rfl, hb⟩
           refine ⟨_, rfl, ?_⟩
           have n0_ := vb_ HO0_3 hb
           have n1_ := vb_ HO0_4 hb
           have n2_ := nb_ HO275 hb
           have n3_ := bb_ BK272 hb
           have n4_ := ak (below_step bsw_ hb)
           clear HO0_3
           clear HO0_4
           clear HO275
           clear BK272
           clear HB
           have HO0_3 := n0_
           have HO0_4 := n1_
           have HO275 := n2_
           have BK272 := n3_
           have HB := n4_
           clear n0_ n1_ n2_ n3_ n4_
           (try clear hb)
           (try clear hb2)
           (try clear hk)
           (try clear hi)
           refine hK.out _ _ (bc5_ BK272) (fun hHeld => ?_)
           clear hK K
           refine no_ (some 19) ?_
           refine pu_ 15 (some 20) (fb 17 65535) HT_ ?_
           refine pu_ 16 (some 4) (fb 17 131071) HT_ ?_
           refine done_ (done_of HT_.out (by kernel_rfl)) ?_
           try go_wp2
           go_ret
           exact ⟨by first | rfl | (simp [errW_none, errW_some] <;> rfl) | (simp [*, errW_none, errW_some] <;> rfl), bsw_⟩
         · rw [if_neg c27] at H
           exact absurd H (by simp)
   · replace c6 := Bool.eq_false_iff.mpr c6
     subst c6
     rw [if_neg (show ¬ (false = true) by decide)] at H
     obtain rfl := Option.some.inj H
     go_enter Try.func37, Try.ntmps37
     try go_wp2_with (first | ((with_reducible refine gate_dst (N := 2) rfl ?_); refine box_event ?hg (N := 2) ?hd (cs := #[.int .i64 a0_0, .int .i64 a0_1, .int .i64 a0_2, .slice A0_3 l0_3.length c0_3, .slice A0_4 l0_4.length c0_4]) (t := 26) ?hr ?_; (case hd => rfl); (case hg => rfl); (case hr => first | (go_simp; done) | (go_simp; rfl)); intro gb272 hg w37 hbox hb; replace HO0_3 := ak (Kd.V_below (Kd.V_elderB (vq_ HO0_3) gb272 (Nat.le_of_eq hg.symm)) hb); replace HO0_4 := ak (Kd.V_below (Kd.V_elderB (vq_ HO0_4) gb272 (Nat.le_of_eq hg.symm)) hb); replace BK272 := ak (hbox); replace GW272 := ak ((by rw [hg]; exact bsz_ : w.heap.size ≤ gb272)); replace HB := ak (bst_ hb); replace GE272 := GW272; clear hb hbox hg))
     have n0_ := ak (Kd.V_drew HO0_3.out)
     have n1_ := ak (Kd.V_drew HO0_4.out)
     have n2_ := ak (blk_drew BK272.out)
     have n3_ := ak (below_drew1 HB.out)
     clear HO0_3
     clear HO0_4
     clear BK272
     clear HB
     have HO0_3 := n0_
     have HO0_4 := n1_
     have BK272 := n2_
     have HB := n3_
     clear n0_ n1_ n2_ n3_
     refine start_ (n := 17) (S := fun w' => w'.cell? ⟨gb272, 0, none⟩ = some (.int .i64 a0_0) ∧ w'.cell? ⟨gb272, 1, none⟩ = some (.int .i64 a0_1) ∧ w'.cell? ⟨gb272, 2, none⟩ = some (.int .i64 a0_2) ∧ w'.cell? ⟨gb272, 3, none⟩ = some (.slice A0_3 l0_3.length c0_3) ∧ w'.cell? ⟨gb272, 4, none⟩ = some (.slice A0_4 l0_4.length c0_4)) (ds := []) (fb 17 0) (by kernel_rfl) rfl rfl ⟨(blk_cell BK272.out 0).trans rfl, (blk_cell BK272.out 1).trans rfl, (blk_cell BK272.out 2).trans rfl, (blk_cell BK272.out 3).trans rfl, (blk_cell BK272.out 4).trans rfl⟩ (fun hHeld => ?_); refine with_tabW filter_May.tab1 filter_May.bits1 (fun HT_ HW_ => ?_)
     generalize w37.drew = w38 at HO0_3 HO0_4 BK272 HB hHeld ⊢
     refine ta5_ 0 (some 5) (fb 17 1) HT_ HW_ hHeld ?_
     refine one_ (i := 1) (N := some 6) (fb 17 3) rfl rfl (one_of HT_.out (by kernel_rfl)) (by decide) (fun K hK => ?_)
     refine Kd.N_lit_step k26 _ 26 ?hg (N' := 6) ?hd (xs := ([(⟨a0_0, a0_1, a0_2, l0_3, l0_4⟩ : S26)] : List (S26))) (inner := [.int .i64 a0_0, .int .i64 a0_1, .int .i64 a0_2, .slice A0_3 l0_3.length c0_3, .slice A0_4 l0_4.length c0_4]) (ok := (fun k_ => ((P0_3_ k_ ∨ P0_4_ k_) ∨ w.heap.size ≤ k_) ∧ k_ ≠ gb272)) (okp := (fun k_ => ((P0_3_ k_ ∨ P0_4_ k_) ∨ w.heap.size ≤ k_) ∧ k_ ≠ gb272)) ?hr ?hp (fun _ hk => hk) ((show ∀ k_, w38.heap.size ≤ k_ → (fun k_ => ((P0_3_ k_ ∨ P0_4_ k_) ∨ w.heap.size ≤ k_) ∧ k_ ≠ gb272) k_ from fun k_ hk => ⟨(.inr (Nat.le_trans (below_size bsw_) hk)), Kd.freshB (g := gb272) (o := .cells #[.int .i64 a0_0, .int .i64 a0_1, .int .i64 a0_2, .slice A0_3 l0_3.length c0_3, .slice A0_4 l0_4.length c0_4] 26 (0, 0)) (bq_ BK272) k_ hk⟩) _ (Nat.le_refl _)) (Below.refl _ _) (Nat.le_refl _) (by simp) ?_; (case hd => rfl); (case hg => rfl); (case hr => first | (go_simp; done) | (go_simp; rfl)); (case hp => exact (Reps.c5 (show Kd.FK k26 _ _ (⟨a0_0, a0_1, a0_2, l0_3, l0_4⟩ : S26) [.int .i64 a0_0, .int .i64 a0_1, .int .i64 a0_2, .slice A0_3 l0_3.length c0_3, .slice A0_4 l0_4.length c0_4] from (k26_mkF _ _ (⟨a0_0, a0_1, a0_2, l0_3, l0_4⟩ : S26) (Kd.V_reads' (Kd.V_mono (ok' := (fun k_ => ((P0_3_ k_ ∨ P0_4_ k_) ∨ w.heap.size ≤ k_) ∧ k_ ≠ gb272)) (HO0_3.out) (fun k_ hk => ⟨hk.1, hk.2⟩))).2.1 (Kd.V_F (Kd.V_mono (ok' := (fun k_ => ((P0_3_ k_ ∨ P0_4_ k_) ∨ w.heap.size ≤ k_) ∧ k_ ≠ gb272)) (HO0_3.out) (fun k_ hk => ⟨hk.1, hk.2⟩))) (Kd.V_reads' (Kd.V_mono (ok' := (fun k_ => ((P0_3_ k_ ∨ P0_4_ k_) ∨ w.heap.size ≤ k_) ∧ k_ ≠ gb272)) (HO0_4.out) (fun k_ hk => ⟨hk.1, hk.2⟩))).2.1 (Kd.V_F (Kd.V_mono (ok' := (fun k_ => ((P0_3_ k_ ∨ P0_4_ k_) ∨ w.heap.size ≤ k_) ∧ k_ ≠ gb272)) (HO0_4.out) (fun k_ hk => ⟨hk.1, hk.2⟩))))) (Reps.none _ _)))
     intro v274 w39 ho40 hb hg_ hnew_
     clear hg_ hnew_
     (first | rw [← Ny273.out] at ho40 | (simp only [Int.reduceToNat] at ho40; rw [← Ny273.out] at ho40))
     have n0_ := ak (Kd.V_elder' (vq_ HO0_3) (Kd.N_base ho40) hb)
     have n1_ := ak (Kd.V_elder' (vq_ HO0_4) (Kd.N_base ho40) hb)
     have n2_ := ak (Kd.N_lower ho40 (below_size bsw_))
     have n3_ := bb_ BK272 hb
     have n4_ := ak (below_step bsw_ hb)
     clear HO0_3
     clear HO0_4
     clear BK272
     clear HB
     have HO0_3 := n0_
     have HO0_4 := n1_
     have HO275 := n2_
     have BK272 := n3_
     have HB := n4_
     clear n0_ n1_ n2_ n3_ n4_
     clear hb ho40
     obtain ⟨Ao41, co41, eo41⟩ := Kd.N_slice HO275.out
     (first | subst eo41 | (injection eo41 with f1_ f2_ f3_; have f4_ := f1_.symm; have f5_ := f3_.symm; clear f1_ f2_ f3_; subst f4_; subst f5_))
     refine hK.out _ _ (bc5_ BK272) (fun hHeld => ?_)
     clear hK K
     refine no_ (some 6) ?_
     refine one_ (i := 2) (N := some 7) (fb 17 7) rfl rfl (one_of HT_.out (by kernel_rfl)) (by decide) (fun K hK => ?_)
     refine goes_ Try.func26 (by kernel_rfl) rfl #[.slice Ao41 y273.length co41] (by rfl) rfl rfl (by (try simp only [List.map_toArray, List.map_cons, List.map_nil]); first | done | rfl | (simp only [List.length_drop, List.length_take]; rfl)) ?_
     with_reducible refine (sleep_Right.calls k _ _ y273 true _ ?side1 ?side2 A3.out).mono ?_
     (case side1 => repeat (first | exact (Kd.N_reads' HO275.out).2.2 | with_reducible first | refine Kd.C_alloc ?_ _ | refine Kd.C_drewN ?_ _ | refine Kd.C_drew ?_))
     (case side2 => exact (Kd.N_reads' HO275.out).2.1)
     rintro e w42 ⟨rfl, hb⟩
     refine ⟨_, rfl, ?_⟩
     have n0_ := vb_ HO0_3 hb
     have n1_ := vb_ HO0_4 hb
     have n2_ := nb_ HO275 hb
     have n3_ := bb_ BK272 hb
     have n4_ := ak (below_step bsw_ hb)
     clear HO0_3
     clear HO0_4
     clear HO275
     clear BK272
     clear HB
     have HO0_3 := n0_
     have HO0_4 := n1_
     have HO275 := n2_
     have BK272 := n3_
     have HB := n4_
     clear n0_ n1_ n2_ n3_ n4_
     (try clear hb)
     (try clear hb2)
     (try clear hk)
     (try clear hi)
     refine hK.out _ _ (bc5_ BK272) (fun hHeld => ?_)
     clear hK K
     refine no_ (some 7) ?_
     refine pu_ 3 (some 8) (fb 17 15) HT_ ?_
     refine pu_ 4 (some 9) (fb 17 31) HT_ ?_
     refine one_ (i := 5) (N := some 10) (fb 17 63) rfl rfl (one_of HT_.out (by kernel_rfl)) (by decide) (fun K hK => ?_)
     refine goes_ Try.func61 (by kernel_rfl) rfl #[.slice A1 l1.length c1] (by rfl) rfl rfl (by (try simp only [List.map_toArray, List.map_cons, List.map_nil]); first | done | rfl | (simp only [List.length_drop, List.length_take]; rfl)) ?_
     with_reducible refine (heap_Right.calls _ _ l1 false _ ?side1 ?side2 A5.out).mono ?_
     (case side1 => repeat (first | exact (Kd.C_below HR1.out HB.out) | with_reducible first | refine Kd.C_alloc ?_ _ | refine Kd.C_drewN ?_ _ | refine Kd.C_drew ?_))
     (case side2 => exact HC1.out)
     rintro e w43 ⟨rfl, hb⟩
     refine ⟨_, rfl, ?_⟩
     have n0_ := vb_ HO0_3 hb
     have n1_ := vb_ HO0_4 hb
     have n2_ := nb_ HO275 hb
     have n3_ := bb_ BK272 hb
     have n4_ := ak (below_step bsw_ hb)
     clear HO0_3
     clear HO0_4
     clear HO275
     clear BK272
     clear HB
     have HO0_3 := n0_
     have HO0_4 := n1_
     have HO275 := n2_
     have BK272 := n3_
     have HB := n4_
     clear n0_ n1_ n2_ n3_ n4_
     (try clear hb)
     (try clear hb2)
     (try clear hk)
     (try clear hi)
     refine hK.out _ _ (bc5_ BK272) (fun hHeld => ?_)
     clear hK K
     refine no_ (some 10) ?_
     refine pu_ 6 (some 11) (fb 17 127) HT_ ?_
     refine pu_ 7 (some 12) (fb 17 255) HT_ ?_
     refine pd_ 8 (some 13) (fb 17 511) HT_ ?_
     refine pd_ 9 (some 14) (fb 17 1023) HT_ ?_
     refine pd_ 10 (some 15) (fb 17 2047) HT_ ?_
     refine pd_ 11 (some 16) (fb 17 4095) HT_ ?_
     refine pd_ 12 (some 17) (fb 17 8191) HT_ ?_
     refine pd_ 13 (some 18) (fb 17 16383) HT_ ?_
     refine pd_ 14 (some 19) (fb 17 32767) HT_ ?_
     refine pu_ 15 (some 20) (fb 17 65535) HT_ ?_
     refine pu_ 16 (some 4) (fb 17 131071) HT_ ?_
     refine done_ (done_of HT_.out (by kernel_rfl)) ?_
     try go_wp2
     go_ret
     exact ⟨by first | rfl | (simp [errW_none, errW_some] <;> rfl) | (simp [*, errW_none, errW_some] <;> rfl), bsw_⟩
 · replace c4 := Bool.eq_false_iff.mpr c4
   subst c4
   rw [if_neg (show ¬ (false = true) by decide)] at H
   obtain rfl := Option.some.inj H
   go_enter Try.func37, Try.ntmps37
   try go_wp2_with (first | ((with_reducible refine gate_dst (N := 2) rfl ?_); refine box_event ?hg (N := 2) ?hd (cs := #[.int .i64 a0_0, .int .i64 a0_1, .int .i64 a0_2, .slice A0_3 l0_3.length c0_3, .slice A0_4 l0_4.length c0_4]) (t := 26) ?hr ?_; (case hd => rfl); (case hg => rfl); (case hr => first | (go_simp; done) | (go_simp; rfl)); intro gb272 hg w44 hbox hb; replace HO0_3 := ak (Kd.V_below (Kd.V_elderB (vq_ HO0_3) gb272 (Nat.le_of_eq hg.symm)) hb); replace HO0_4 := ak (Kd.V_below (Kd.V_elderB (vq_ HO0_4) gb272 (Nat.le_of_eq hg.symm)) hb); replace BK272 := ak (hbox); replace GW272 := ak ((by rw [hg]; exact bsz_ : w.heap.size ≤ gb272)); replace HB := ak (bst_ hb); replace GE272 := GW272; clear hb hbox hg))
   have n0_ := ak (Kd.V_drew HO0_3.out)
   have n1_ := ak (Kd.V_drew HO0_4.out)
   have n2_ := ak (blk_drew BK272.out)
   have n3_ := ak (below_drew1 HB.out)
   clear HO0_3
   clear HO0_4
   clear BK272
   clear HB
   have HO0_3 := n0_
   have HO0_4 := n1_
   have BK272 := n2_
   have HB := n3_
   clear n0_ n1_ n2_ n3_
   refine start_ (n := 17) (S := fun w' => w'.cell? ⟨gb272, 0, none⟩ = some (.int .i64 a0_0) ∧ w'.cell? ⟨gb272, 1, none⟩ = some (.int .i64 a0_1) ∧ w'.cell? ⟨gb272, 2, none⟩ = some (.int .i64 a0_2) ∧ w'.cell? ⟨gb272, 3, none⟩ = some (.slice A0_3 l0_3.length c0_3) ∧ w'.cell? ⟨gb272, 4, none⟩ = some (.slice A0_4 l0_4.length c0_4)) (ds := []) (fb 17 0) (by kernel_rfl) rfl rfl ⟨(blk_cell BK272.out 0).trans rfl, (blk_cell BK272.out 1).trans rfl, (blk_cell BK272.out 2).trans rfl, (blk_cell BK272.out 3).trans rfl, (blk_cell BK272.out 4).trans rfl⟩ (fun hHeld => ?_); refine with_tabW filter_May.tab1 filter_May.bits1 (fun HT_ HW_ => ?_)
   generalize w44.drew = w45 at HO0_3 HO0_4 BK272 HB hHeld ⊢
   refine ta5_ 0 (some 5) (fb 17 1) HT_ HW_ hHeld ?_
   refine one_ (i := 1) (N := some 6) (fb 17 3) rfl rfl (one_of HT_.out (by kernel_rfl)) (by decide) (fun K hK => ?_)
   refine Kd.N_lit_step k26 _ 26 ?hg (N' := 6) ?hd (xs := ([(⟨a0_0, a0_1, a0_2, l0_3, l0_4⟩ : S26)] : List (S26))) (inner := [.int .i64 a0_0, .int .i64 a0_1, .int .i64 a0_2, .slice A0_3 l0_3.length c0_3, .slice A0_4 l0_4.length c0_4]) (ok := (fun k_ => ((P0_3_ k_ ∨ P0_4_ k_) ∨ w.heap.size ≤ k_) ∧ k_ ≠ gb272)) (okp := (fun k_ => ((P0_3_ k_ ∨ P0_4_ k_) ∨ w.heap.size ≤ k_) ∧ k_ ≠ gb272)) ?hr ?hp (fun _ hk => hk) ((show ∀ k_, w45.heap.size ≤ k_ → (fun k_ => ((P0_3_ k_ ∨ P0_4_ k_) ∨ w.heap.size ≤ k_) ∧ k_ ≠ gb272) k_ from fun k_ hk => ⟨(.inr (Nat.le_trans (below_size bsw_) hk)), Kd.freshB (g := gb272) (o := .cells #[.int .i64 a0_0, .int .i64 a0_1, .int .i64 a0_2, .slice A0_3 l0_3.length c0_3, .slice A0_4 l0_4.length c0_4] 26 (0, 0)) (bq_ BK272) k_ hk⟩) _ (Nat.le_refl _)) (Below.refl _ _) (Nat.le_refl _) (by simp) ?_; (case hd => rfl); (case hg => rfl); (case hr => first | (go_simp; done) | (go_simp; rfl)); (case hp => exact (Reps.c5 (show Kd.FK k26 _ _ (⟨a0_0, a0_1, a0_2, l0_3, l0_4⟩ : S26) [.int .i64 a0_0, .int .i64 a0_1, .int .i64 a0_2, .slice A0_3 l0_3.length c0_3, .slice A0_4 l0_4.length c0_4] from (k26_mkF _ _ (⟨a0_0, a0_1, a0_2, l0_3, l0_4⟩ : S26) (Kd.V_reads' (Kd.V_mono (ok' := (fun k_ => ((P0_3_ k_ ∨ P0_4_ k_) ∨ w.heap.size ≤ k_) ∧ k_ ≠ gb272)) (HO0_3.out) (fun k_ hk => ⟨hk.1, hk.2⟩))).2.1 (Kd.V_F (Kd.V_mono (ok' := (fun k_ => ((P0_3_ k_ ∨ P0_4_ k_) ∨ w.heap.size ≤ k_) ∧ k_ ≠ gb272)) (HO0_3.out) (fun k_ hk => ⟨hk.1, hk.2⟩))) (Kd.V_reads' (Kd.V_mono (ok' := (fun k_ => ((P0_3_ k_ ∨ P0_4_ k_) ∨ w.heap.size ≤ k_) ∧ k_ ≠ gb272)) (HO0_4.out) (fun k_ hk => ⟨hk.1, hk.2⟩))).2.1 (Kd.V_F (Kd.V_mono (ok' := (fun k_ => ((P0_3_ k_ ∨ P0_4_ k_) ∨ w.heap.size ≤ k_) ∧ k_ ≠ gb272)) (HO0_4.out) (fun k_ hk => ⟨hk.1, hk.2⟩))))) (Reps.none _ _)))
   intro v274 w46 ho47 hb hg_ hnew_
   clear hg_ hnew_
   (first | rw [← Ny273.out] at ho47 | (simp only [Int.reduceToNat] at ho47; rw [← Ny273.out] at ho47))
   have n0_ := ak (Kd.V_elder' (vq_ HO0_3) (Kd.N_base ho47) hb)
   have n1_ := ak (Kd.V_elder' (vq_ HO0_4) (Kd.N_base ho47) hb)
   have n2_ := ak (Kd.N_lower ho47 (below_size bsw_))
   have n3_ := bb_ BK272 hb
   have n4_ := ak (below_step bsw_ hb)
   clear HO0_3
   clear HO0_4
   clear BK272
   clear HB
   have HO0_3 := n0_
   have HO0_4 := n1_
   have HO275 := n2_
   have BK272 := n3_
   have HB := n4_
   clear n0_ n1_ n2_ n3_ n4_
   clear hb ho47
   obtain ⟨Ao48, co48, eo48⟩ := Kd.N_slice HO275.out
   (first | subst eo48 | (injection eo48 with f1_ f2_ f3_; have f4_ := f1_.symm; have f5_ := f3_.symm; clear f1_ f2_ f3_; subst f4_; subst f5_))
   refine hK.out _ _ (bc5_ BK272) (fun hHeld => ?_)
   clear hK K
   refine no_ (some 6) ?_
   refine one_ (i := 2) (N := some 7) (fb 17 7) rfl rfl (one_of HT_.out (by kernel_rfl)) (by decide) (fun K hK => ?_)
   refine goes_ Try.func26 (by kernel_rfl) rfl #[.slice Ao48 y273.length co48] (by rfl) rfl rfl (by (try simp only [List.map_toArray, List.map_cons, List.map_nil]); first | done | rfl | (simp only [List.length_drop, List.length_take]; rfl)) ?_
   with_reducible refine (sleep_Right.calls k _ _ y273 false _ ?side1 ?side2 A3.out).mono ?_
   (case side1 => repeat (first | exact (Kd.N_reads' HO275.out).2.2 | with_reducible first | refine Kd.C_alloc ?_ _ | refine Kd.C_drewN ?_ _ | refine Kd.C_drew ?_))
   (case side2 => exact (Kd.N_reads' HO275.out).2.1)
   rintro e w49 ⟨rfl, hb⟩
   refine ⟨_, rfl, ?_⟩
   have n0_ := vb_ HO0_3 hb
   have n1_ := vb_ HO0_4 hb
   have n2_ := nb_ HO275 hb
   have n3_ := bb_ BK272 hb
   have n4_ := ak (below_step bsw_ hb)
   clear HO0_3
   clear HO0_4
   clear HO275
   clear BK272
   clear HB
   have HO0_3 := n0_
   have HO0_4 := n1_
   have HO275 := n2_
   have BK272 := n3_
   have HB := n4_
   clear n0_ n1_ n2_ n3_ n4_
   (try clear hb)
   (try clear hb2)
   (try clear hk)
   (try clear hi)
   refine hK.out _ _ (bc5_ BK272) (fun hHeld => ?_)
   clear hK K
   refine no_ (some 7) ?_
   refine pu_ 3 (some 8) (fb 17 15) HT_ ?_
   refine pd_ 4 (some 9) (fb 17 31) HT_ ?_
   refine pd_ 5 (some 10) (fb 17 63) HT_ ?_
   refine pu_ 6 (some 11) (fb 17 127) HT_ ?_
   refine pu_ 7 (some 12) (fb 17 255) HT_ ?_
   refine pd_ 8 (some 13) (fb 17 511) HT_ ?_
   refine pd_ 9 (some 14) (fb 17 1023) HT_ ?_
   refine pd_ 10 (some 15) (fb 17 2047) HT_ ?_
   refine pd_ 11 (some 16) (fb 17 4095) HT_ ?_
   refine pd_ 12 (some 17) (fb 17 8191) HT_ ?_
   refine pd_ 13 (some 18) (fb 17 16383) HT_ ?_
   refine pd_ 14 (some 19) (fb 17 32767) HT_ ?_
   refine pu_ 15 (some 20) (fb 17 65535) HT_ ?_
   refine pu_ 16 (some 4) (fb 17 131071) HT_ ?_
   refine done_ (done_of HT_.out (by kernel_rfl)) ?_
   try go_wp2
   go_ret
   exact ⟨by first | rfl | (simp [errW_none, errW_some] <;> rfl) | (simp [*, errW_none, errW_some] <;> rfl), bsw_⟩

end Go.Proofs.Ytjnkpocfmpbpoaa.F
