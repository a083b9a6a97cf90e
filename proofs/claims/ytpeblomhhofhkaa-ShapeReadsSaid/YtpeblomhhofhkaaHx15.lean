-- PRINTED by print.py (a twelfth state) out of the translation. Not trusted: Lean checks it.
import Derived.Test.YtpeblomhhofhkaaHx0
import Derived.Test.YtpeblomhhofhkaaHx14
namespace Go.Proofs.Ytpeblomhhofhkaa.H
open Go.Proofs.Ytpeblomhhofhkaa.Ho
open Go.RowKit Go.Proofs.YtpeblomhhofhkaaW.PrintWords Go.Proofs.YtpeblomhhofhkaaW.PrintLast Go.Proofs.YtpeblomhhofhkaaW.PrintMore
attribute [local go_sem] max2_int min2_int max_two min_two max_three min_three max_four min_four   -- for this text's walks alone
set_option linter.unusedVariables false
set_option linter.unusedSimpArgs false

/-! ### handshakerlaw08_Ref: function 15 -/
def handshakerlaw08_Ref.l0 : Nat → List (S62) → List (S53) → Int → Int → Option ((List (S62)))
 | 0, _, _, _, _ => none
 | k + 1, x3, x6, x7, x8 => if x8 < x7 then (if 0 ≤ x8 then (if x8 < (x6.length : Int) then ((handshakerlaw07_Ref.f k ((rd_T53 x6 x8).f3)).bind fun t336 => (if x3.length < 2932031007402 then (handshakerlaw08_Ref.l0 k (x3 ++ [(⟨(rd_T53 x6 x8).f0, (rd_T53 x6 x8).f1, (rd_T53 x6 x8).f2, t336⟩ : S62)]) x6 x7 (wrap64 (x8 + 1))) else (none))) else (none)) else (none)) else (some x3)
def handshakerlaw08_Ref.f (k : Nat) (l0 : List (S53)) : Option ((List (S62))) := handshakerlaw08_Ref.l0 k ([] : List (S62)) l0 (l0.length : Int) 0
theorem handshakerlaw08_Ref.mono_l : ∀ k, (∀ y0 y1 y2 y3, LeO (handshakerlaw08_Ref.l0 k y0 y1 y2 y3) (handshakerlaw08_Ref.l0 (k + 1) y0 y1 y2 y3))
 | 0 => fun _ _ _ _ r h => by simp [handshakerlaw08_Ref.l0] at h
 | k + 1 => by
  have ih0 := handshakerlaw08_Ref.mono_l k
  · intro y0 y1 y2 y3
    unfold handshakerlaw08_Ref.l0
    repeat' first
    | (with_reducible exact ih0 _ _ _ _)
    | (with_reducible exact handshakerlaw07_Ref.mono _ _)
    | (with_reducible exact LeO.refl _)
    | (with_reducible exact LeO.none _)
    | (with_reducible refine LeO.ite ?_ ?_)
    | (with_reducible refine LeO.bind ?_ (fun _ => ?_))
    | exact ih0 _ _ _ _
    | exact handshakerlaw07_Ref.mono _ _
    | exact LeO.none _
    | refine LeO.ite ?_ ?_
    | refine LeO.bind ?_ (fun _ => ?_)
theorem handshakerlaw08_Ref.mono : ∀ a0 k, LeO (handshakerlaw08_Ref.f k a0) (handshakerlaw08_Ref.f (k + 1) a0) := by
 intro a0 k
 have ih0 := handshakerlaw08_Ref.mono_l k
 unfold handshakerlaw08_Ref.f
 repeat' first
  | (with_reducible exact ih0 _ _ _ _)
  | (with_reducible exact handshakerlaw07_Ref.mono _ _)
  | (with_reducible exact LeO.refl _)
  | (with_reducible exact LeO.none _)
  | (with_reducible refine LeO.ite ?_ ?_)
  | (with_reducible refine LeO.bind ?_ (fun _ => ?_))
  | exact ih0 _ _ _ _
  | exact handshakerlaw07_Ref.mono _ _
  | exact LeO.none _
  | refine LeO.ite ?_ ?_
  | refine LeO.bind ?_ (fun _ => ?_)
def handshakerlaw08_Ref.T5 : Bool × List (List Nat × List Nat) := (true, [([], []), ([], []), ([1], [1]), ([], []), ([3], [3]), ([], []), ([5], [5]), ([], []), ([7], [7]), ([8], [8]), ([2, 4, 6, 9], [2, 4, 6, 9]), ([10], [10]), ([0, 11, 9], [0, 11]), ([12, 12, 0, 1, 2, 3, 4, 5, 6, 7, 8, 9, 10, 11, 12], [0, 12])])
def handshakerlaw08_Ref.B5 : List Nat := [0, 0, 2, 0, 8, 0, 32, 0, 128, 384, 1022, 2046, 4095, 8191]
theorem handshakerlaw08_Ref.tab5 : rtab .any (opsOf Try.f15 5) = handshakerlaw08_Ref.T5 := by kernel_rfl
theorem handshakerlaw08_Ref.bits5 : waitsOk handshakerlaw08_Ref.T5.2 handshakerlaw08_Ref.B5 = true := by kernel_rfl
set_option maxHeartbeats 8000000 in
set_option maxRecDepth 100000 in
theorem handshakerlaw08_Ref.calls (k : Nat) (A0 : Option Addr) (c0 : Nat) (l0 : List (S53)) (r : List (S62)) (w : World) (hr0 : Kd.C k53 w A0 l0.length l0) (hc0 : l0.length ≤ c0) (h : handshakerlaw08_Ref.f k l0 = some r) :
 Calls Try.prog 15 #[.slice A0 l0.length c0] w fun e w' => ∃ v0_ : Value, e = .returned (v0_) ∧ Kd.S k62 62 w' w.heap.size (fun _ => True) v0_ r ∧ Below w.heap.size w w' := by
 have hu53 := Try.underlying53
 have hu62 := Try.underlying62
 have HR0 := ak hr0
 have HC0 := ak hc0
 clear hr0 hc0
 have HB := ak (Below.refl w.heap.size w)
 have H : (handshakerlaw08_Ref.l0 k ([] : List (S62)) l0 (l0.length : Int) 0) = some r := h
 clear h
 have H' := ak H
 clear H
 go_enter Try.func15, Try.ntmps15
 go_wp2
 go_loopg [3, 8] k (fun kq v3 v8 w' => ∃ (x3_1 : List (S62)) (x8_1 : Int), v8 = .int .i64 x8_1 ∧ Aside0 (handshakerlaw08_Ref.l0 kq x3_1 l0 (l0.length : Int) x8_1 = some r) ∧ Aside0 (kq ≤ k) ∧ Aside0 (Kd.S k62 62 w' w.heap.size (fun _ => True) v3 x3_1) ∧ Aside0 (Below w.heap.size w w'))
 case atStart => exact ⟨(([] : List (S62))), (0), (by first | rfl | (simp; done) | (simp [*]; done)), H', ⟨Nat.le_refl _⟩, ⟨by first | exact Kd.S_nil _ _ _ _ _ | exact Kd.N_nil _ _ _ _ _ | exact Kd.V_nil _ _ _ _ _ | exact Kd.Q_nil _ _ _ _ _ | exact Kd.R_nil _ _ _ _ _⟩, ⟨bsv_⟩⟩
 case round =>
  clear H'
  try clear c1
  obtain ⟨x3_1, x8_1, rfl, HA, HK1, HO_3, HB⟩ := hrel
  cases gk with
  | zero => exact absurd HA.out (by simp [handshakerlaw08_Ref.l0])
  | succ k1 =>
   have H := HA.out
   clear HA
   simp only [handshakerlaw08_Ref.l0] at H
   by_cases c2 : x8_1 < (l0.length : Int)
   rotate_left
   · rw [if_neg c2] at H
     have c2b0 : decide (x8_1 < (l0.length : Int)) = false := decide_eq_false c2
     clear c2
     obtain rfl := Option.some.inj H
     go_wp2
     go_ret
     exact ⟨_, by first | rfl | (simp [errW_none, errW_some] <;> rfl) | (simp [*, errW_none, errW_some] <;> rfl), sq_ HO_3, bsv_⟩
   rw [if_pos c2] at H
   have c2b0 : decide (x8_1 < (l0.length : Int)) = true := decide_eq_true c2
   clear c2
   by_cases c3 : 0 ≤ x8_1
   rotate_left
   · rw [if_neg c3] at H
     exact absurd H (by simp)
   rw [if_pos c3] at H
   have c3b0 : decide (0 ≤ x8_1) = true := decide_eq_true c3
   clear c3
   by_cases c4 : x8_1 < (l0.length : Int)
   rotate_left
   · rw [if_neg c4] at H
     exact absurd H (by simp)
   rw [if_pos c4] at H
   have c4b0 : decide (x8_1 < (l0.length : Int)) = true := decide_eq_true c4
   clear c4
   obtain ⟨t336, A5, H⟩ := bd_ H
   by_cases c6 : x3_1.length < 2932031007402
   rotate_left
   · rw [if_neg c6] at H
     exact absurd H (by simp)
   rw [if_pos c6] at H
   have LMc6 := ak c6
   clear c6
   obtain ⟨y339, hy339⟩ : ∃ y_ : List (S62), y_ = (x3_1 ++ [(⟨(rd_T53 l0 x8_1).f0, (rd_T53 l0 x8_1).f1, (rd_T53 l0 x8_1).f2, t336⟩ : S62)]) := ⟨_, rfl⟩
   replace H : (handshakerlaw08_Ref.l0 k1 y339 l0 (l0.length : Int) (wrap64 (x8_1 + 1))) = some r := rh_ hy339 H
   have Ny339 := ak hy339
   clear hy339
   have H' := ak H
   clear H
   have p334 : 0 ≤ (x8_1 : Int) := oda_
   have q334 : x8_1 < (l0.length : Int) := oda_
   obtain ⟨ad334, A334_3, c334_3, e334, hx334_0, hx334_1, hx334_2, hx334_3, hl334_3, hi334_3⟩ := at_T53 HR0.out x8_1 p334 q334
   cases e334
   replace hx334_0 := bl_ HB hx334_0
   replace hx334_1 := bl_ HB hx334_1
   replace hx334_2 := bl_ HB hx334_2
   replace hx334_3 := bl_ HB hx334_3
   have HR334_3 := ak hi334_3
   have HC334_3 := ak hl334_3
   clear hi334_3 hl334_3
   replace p334 := eq_true p334
   replace q334 := eq_true q334
   try go_wp2_with (first | ((with_reducible refine gate_dst (N := 5) rfl ?_); refine box_event ?hg (N := 5) ?hd (cs := #[.int .i64 0, .int .i64 0, .int .i64 0, .slice none 0 0]) (t := 53) ?hr ?_; (case hd => rfl); (case hg => rfl); (case hr => first | (go_simp; done) | (go_simp; rfl)); intro gb335 hg w7 hbox hb; replace HO_3 := ak (Kd.S_below (sq_ HO_3) hb); replace BK335 := ak (hbox); replace GW335 := ak ((by rw [hg]; exact bsz_ : w.heap.size ≤ gb335)); replace HB := ak (bst_ hb); replace GE335 := GW335; clear hb hbox hg; obtain ⟨hcz8_0, hcz8_1, hcz8_2, hcz8_3, hfz8_0, hfz8_1, hfz8_2, hfz8_3⟩ := bz4_ BK335))
   have n0_ : Aside0 (Kd.S k62 62 ((((w7.setCell ⟨gb335, 0, none⟩ (.int .i64 ((rd_T53 l0 x8_1).f0))).setCell ⟨gb335, 1, none⟩ (.int .i64 ((rd_T53 l0 x8_1).f1))).setCell ⟨gb335, 2, none⟩ (.int .i64 ((rd_T53 l0 x8_1).f2))).setCell ⟨gb335, 3, none⟩ (.slice A334_3 ((rd_T53 l0 x8_1).f3).length c334_3)) w.heap.size (fun _ => True) u3 x3_1) := ⟨by (with_reducible repeat (first | apply Kd.S_alloc | apply Kd.S_drewN | apply Kd.S_drew)); exact Kd.S_mono (Kd.S_far (p := ⟨gb335, 3, none⟩) (Kd.S_far (p := ⟨gb335, 2, none⟩) (Kd.S_far (p := ⟨gb335, 1, none⟩) (Kd.S_far (p := ⟨gb335, 0, none⟩) (Kd.S_types HO_3.out BK335.out (by decide)) (fun _ hk => hk.2) (.int .i64 ((rd_T53 l0 x8_1).f0))) (fun _ hk => hk.2) (.int .i64 ((rd_T53 l0 x8_1).f1))) (fun _ hk => hk.2) (.int .i64 ((rd_T53 l0 x8_1).f2))) (fun _ hk => hk.2) (.slice A334_3 ((rd_T53 l0 x8_1).f3).length c334_3)) (fun _ hk => trivial)⟩
   have n1_ : Aside0 (((((w7.setCell ⟨gb335, 0, none⟩ (.int .i64 ((rd_T53 l0 x8_1).f0))).setCell ⟨gb335, 1, none⟩ (.int .i64 ((rd_T53 l0 x8_1).f1))).setCell ⟨gb335, 2, none⟩ (.int .i64 ((rd_T53 l0 x8_1).f2))).setCell ⟨gb335, 3, none⟩ (.slice A334_3 ((rd_T53 l0 x8_1).f3).length c334_3)).heap[gb335]? = some (.cells #[.int .i64 ((rd_T53 l0 x8_1).f0), .int .i64 ((rd_T53 l0 x8_1).f1), .int .i64 ((rd_T53 l0 x8_1).f2), .slice A334_3 ((rd_T53 l0 x8_1).f3).length c334_3] 53 (0, 0))) := ⟨by (with_reducible repeat (first | refine blk_drewN ?_ _ | refine blk_drew ?_ | refine blk_alloc ?_ _)); refine blk_put (cs := #[.int .i64 ((rd_T53 l0 x8_1).f0), .int .i64 ((rd_T53 l0 x8_1).f1), .int .i64 ((rd_T53 l0 x8_1).f2), .slice none 0 0]) ?_ 3 _ rfl; (with_reducible repeat (first | refine blk_drewN ?_ _ | refine blk_drew ?_ | refine blk_alloc ?_ _)); refine blk_put (cs := #[.int .i64 ((rd_T53 l0 x8_1).f0), .int .i64 ((rd_T53 l0 x8_1).f1), .int .i64 0, .slice none 0 0]) ?_ 2 _ rfl; (with_reducible repeat (first | refine blk_drewN ?_ _ | refine blk_drew ?_ | refine blk_alloc ?_ _)); refine blk_put (cs := #[.int .i64 ((rd_T53 l0 x8_1).f0), .int .i64 0, .int .i64 0, .slice none 0 0]) ?_ 1 _ rfl; (with_reducible repeat (first | refine blk_drewN ?_ _ | refine blk_drew ?_ | refine blk_alloc ?_ _)); refine blk_put (cs := #[.int .i64 0, .int .i64 0, .int .i64 0, .slice none 0 0]) ?_ 0 _ rfl; (with_reducible repeat (first | refine blk_drewN ?_ _ | refine blk_drew ?_ | refine blk_alloc ?_ _)); exact BK335.out⟩
   have n2_ : Aside0 (Below w.heap.size w ((((w7.setCell ⟨gb335, 0, none⟩ (.int .i64 ((rd_T53 l0 x8_1).f0))).setCell ⟨gb335, 1, none⟩ (.int .i64 ((rd_T53 l0 x8_1).f1))).setCell ⟨gb335, 2, none⟩ (.int .i64 ((rd_T53 l0 x8_1).f2))).setCell ⟨gb335, 3, none⟩ (.slice A334_3 ((rd_T53 l0 x8_1).f3).length c334_3))) := ⟨bsw_⟩
   (try clear HO_3)
   (try clear BK335)
   (try clear HB)
   generalize ((((w7.setCell ⟨gb335, 0, none⟩ (.int .i64 ((rd_T53 l0 x8_1).f0))).setCell ⟨gb335, 1, none⟩ (.int .i64 ((rd_T53 l0 x8_1).f1))).setCell ⟨gb335, 2, none⟩ (.int .i64 ((rd_T53 l0 x8_1).f2))).setCell ⟨gb335, 3, none⟩ (.slice A334_3 ((rd_T53 l0 x8_1).f3).length c334_3)) = w9 at n0_ n1_ n2_ ⊢
   have HO_3 := n0_
   have BK335 := n1_
   have HB := n2_
   clear n0_ n1_ n2_
   have n0_ := ak (Kd.S_drew HO_3.out)
   have n1_ := ak (blk_drew BK335.out)
   have n2_ := ak (below_drew1 HB.out)
   clear HO_3
   clear BK335
   clear HB
   have HO_3 := n0_
   have BK335 := n1_
   have HB := n2_
   clear n0_ n1_ n2_
   refine start_ (n := 14) (S := fun w' => w'.cell? ⟨gb335, 0, none⟩ = some (.int .i64 ((rd_T53 l0 x8_1).f0)) ∧ w'.cell? ⟨gb335, 1, none⟩ = some (.int .i64 ((rd_T53 l0 x8_1).f1)) ∧ w'.cell? ⟨gb335, 2, none⟩ = some (.int .i64 ((rd_T53 l0 x8_1).f2)) ∧ w'.cell? ⟨gb335, 3, none⟩ = some (.slice A334_3 ((rd_T53 l0 x8_1).f3).length c334_3)) (ds := []) (fb 14 0) (by kernel_rfl) rfl rfl ⟨(blk_cell BK335.out 0).trans rfl, (blk_cell BK335.out 1).trans rfl, (blk_cell BK335.out 2).trans rfl, (blk_cell BK335.out 3).trans rfl⟩ (fun hHeld => ?_); refine with_tabW handshakerlaw08_Ref.tab5 handshakerlaw08_Ref.bits5 (fun HT_ HW_ => ?_)
   generalize w9.drew = w10 at HO_3 BK335 HB hHeld ⊢
   refine pu_ 0 (some 12) (fb 14 1) HT_ ?_
   refine pu_ 1 (some 13) (fb 14 3) HT_ ?_
   refine pu_ 3 (some 15) (fb 14 11) HT_ ?_
   refine pu_ 5 (some 17) (fb 14 43) HT_ ?_
   refine pu_ 7 (some 19) (fb 14 171) HT_ ?_
   refine ta4_ 2 (some 14) (fb 14 175) HT_ HW_ hHeld ?_
   refine ta4_ 4 (some 16) (fb 14 191) HT_ HW_ hHeld ?_
   refine ta4_ 6 (some 18) (fb 14 255) HT_ HW_ hHeld ?_
   refine ta4_ 8 (some 20) (fb 14 511) HT_ HW_ hHeld ?_
   refine one_ (i := 9) (N := some 21) (fb 14 1023) rfl rfl (one_of HT_.out (by kernel_rfl)) (by decide) (fun K hK => ?_)
   refine goes_ Try.func27 (by kernel_rfl) rfl #[.slice A334_3 ((rd_T53 l0 x8_1).f3).length c334_3] (by rfl) rfl rfl (by (try simp only [List.map_toArray, List.map_cons, List.map_nil]); first | done | rfl | (simp only [List.length_drop, List.length_take]; rfl)) ?_
   with_reducible refine (handshakerlaw07_Ref.calls k1 _ _ ((rd_T53 l0 x8_1).f3) t336 _ ?side1 ?side2 A5.out).mono ?_
   (case side1 => exact cb_ HR334_3 HB)
   (case side2 => exact HC334_3.out)
   rintro e w11 ⟨v337, rfl, ho0, hb⟩
   refine ⟨_, rfl, ?_⟩
   have n0_ := ak (Kd.S_elder' (sq_ HO_3) (Kd.R_base ho0) hb)
   have n1_ := ak (Kd.R_lower ho0 (below_size bsw_))
   have n2_ := bb_ BK335 hb
   have n3_ := ak (below_step bsw_ hb)
   clear HO_3
   clear BK335
   clear HB
   have HO_3 := n0_
   have HO338 := n1_
   have BK335 := n2_
   have HB := n3_
   clear n0_ n1_ n2_ n3_
   (try clear hb)
   (try clear hb2)
   (try clear hk)
   (try clear hi)
   (try clear ho0)
   obtain ⟨Ao12, co12, eo12⟩ := Kd.R_slice HO338.out
   (first | subst eo12 | (injection eo12 with f1_ f2_ f3_; have f4_ := f1_.symm; have f5_ := f3_.symm; clear f1_ f2_ f3_; subst f4_; subst f5_))
   refine hK.out _ _ (bc4_ BK335) (fun hHeld => ?_)
   clear hK K
   refine no_ (some 21) ?_
   refine pu_ 10 (some 22) (fb 14 2047) HT_ ?_
   refine one_ (i := 11) (N := some 23) (fb 14 4095) rfl rfl (one_of HT_.out (by kernel_rfl)) (by decide) (fun K hK => ?_)
   refine value_ (w1 := ?_) (v := ?_) (by rfl) rfl ?_ ?_
   rotate_left 2
   · go_simp
     constructor
     · rfl
     · rfl
   refine hK.out _ _ ⟨(blk_cell (blk_alloc BK335.out _) 0).trans rfl, (blk_cell (blk_alloc BK335.out _) 1).trans rfl, (blk_cell (blk_alloc BK335.out _) 2).trans rfl, (blk_cell (blk_alloc BK335.out _) 3).trans rfl⟩ (fun hHeld => ?_)
   clear hK K
   refine no_ (some 23) ?_
   refine one_ (i := 12) (N := some 24) (fb 14 8191) rfl rfl (one_of HT_.out (by kernel_rfl)) (by decide) (fun K hK => ?_)
   refine Kd.S_append_step k62 (w0 := w) w.heap.size (by rfl) (.tmp 12) (.tmp 23) 35 62 (.agg #[(.int .i64 0), (.int .i64 0), (.int .i64 0), (.slice none 0 0)]) 48 rfl Try.underlying35 info62 rfl (by decide) (by omega) u3 x3_1 (⟨(rd_T53 l0 x8_1).f0, (rd_T53 l0 x8_1).f1, (rd_T53 l0 x8_1).f2, t336⟩ : S62) [.int .i64 ((rd_T53 l0 x8_1).f0), .int .i64 ((rd_T53 l0 x8_1).f1), .int .i64 ((rd_T53 l0 x8_1).f2), .slice Ao12 t336.length co12] (fun _ => True) (fun k_ => some k_ = (.slice Ao12 t336.length co12 : Value).ownBlock) rfl rfl ?aP (fun k_ hk_ => ((Kd.R_mono (ok' := fun k_ => ((fun _ => True)) k_ ∧ some k_ ≠ (u3 : Value).ownBlock) (Kd.R_apart' (HO338.out) (Kd.S_typed HO_3.out) (by decide)) (fun k_ hk => ⟨trivial, hk.2⟩))).1 k_ hk_.symm) ?aF ?aO ?aB ?aS ?aL ?_
   (case aP => exact k62_mkM _ _ _ (⟨(rd_T53 l0 x8_1).f0, (rd_T53 l0 x8_1).f1, (rd_T53 l0 x8_1).f2, t336⟩ : S62) (Kd.R_mono (Kd.R_tight rfl (Kd.R_mono (ok' := fun k_ => ((fun _ => True)) k_ ∧ some k_ ≠ (u3 : Value).ownBlock) (Kd.R_apart' (HO338.out) (Kd.S_typed HO_3.out) (by decide)) (fun k_ hk => ⟨trivial, hk.2⟩))) (fun _ h_ => h_)))
   (case aB => exact bsw_)
   (case aF => exact (fun _ _ => trivial))
   (case aO => exact (Kd.S_mono (sq_ HO_3) (fun k_ hk => ⟨trivial, fun e_ => hk.2 e_⟩)))
   (case aS => exact (below_size bsw_))
   (case aL => have := LMc6.out; omega)
   intro v340 w13 ho hb hg hat
   rw [← Ny339.out] at ho
   have n0_ := ak (blk_grown (g := gb335) (o := .cells #[.int .i64 ((rd_T53 l0 x8_1).f0), .int .i64 ((rd_T53 l0 x8_1).f1), .int .i64 ((rd_T53 l0 x8_1).f2), .slice A334_3 ((rd_T53 l0 x8_1).f3).length c334_3] 53 (0, 0)) (bq_ BK335) hg (Kd.S_ne HO_3.out BK335.out (by decide)))
   have n1_ := ak (hb)
   have n2_ := ak (ho)
   clear BK335
   clear HB
   clear HO_3
   clear HO338
   have BK335 := n0_
   have HB := n1_
   have HO341 := n2_
   clear n0_ n1_ n2_
   clear ho hb hg hat
   refine hK.out _ _ (bc4_ BK335) (fun hHeld => ?_)
   clear hK K
   refine no_ (some 24) ?_
   refine pu_ 13 (some 3) (fb 14 16383) HT_ ?_
   refine done_ (done_of HT_.out (by kernel_rfl)) ?_
   try go_wp2
   go_roundg k1
   case measure => have := HK1.out; omega
   case rel => exact ⟨(y339), (wrap64 (x8_1 + 1)), (by first | rfl | (simp; done) | (simp [*]; done)), H', ⟨by have := HK1.out; omega⟩, ⟨sq_ HO341⟩, ⟨bsw_⟩⟩

/-! ### handshakerlaw09_Refs: function 13 -/
def handshakerlaw09_Refs.l0 : Nat → List (List (S62)) → List (List (S53)) → Int → Int → Option ((List (List (S62))))
 | 0, _, _, _, _ => none
 | k + 1, x3, x6, x7, x8 => if x8 < x7 then (if 0 ≤ x8 then (if x8 < (x6.length : Int) then ((handshakerlaw08_Ref.f k (rd_L5 x6 x8)).bind fun t343 => (if x3.length < 5864062014805 then (handshakerlaw09_Refs.l0 k (x3 ++ [t343]) x6 x7 (wrap64 (x8 + 1))) else (none))) else (none)) else (none)) else (some x3)
def handshakerlaw09_Refs.f (k : Nat) (l0 : List (List (S53))) : Option ((List (List (S62)))) := handshakerlaw09_Refs.l0 k ([] : List (List (S62))) l0 (l0.length : Int) 0
theorem handshakerlaw09_Refs.mono_l : ∀ k, (∀ y0 y1 y2 y3, LeO (handshakerlaw09_Refs.l0 k y0 y1 y2 y3) (handshakerlaw09_Refs.l0 (k + 1) y0 y1 y2 y3))
 | 0 => fun _ _ _ _ r h => by simp [handshakerlaw09_Refs.l0] at h
 | k + 1 => by
  have ih0 := handshakerlaw09_Refs.mono_l k
  · intro y0 y1 y2 y3
    unfold handshakerlaw09_Refs.l0
    repeat' first
    | (with_reducible exact ih0 _ _ _ _)
    | (with_reducible exact handshakerlaw08_Ref.mono _ _)
    | (with_reducible exact LeO.refl _)
    | (with_reducible exact LeO.none _)
    | (with_reducible refine LeO.ite ?_ ?_)
    | (with_reducible refine LeO.bind ?_ (fun _ => ?_))
    | exact ih0 _ _ _ _
    | exact handshakerlaw08_Ref.mono _ _
    | exact LeO.none _
    | refine LeO.ite ?_ ?_
    | refine LeO.bind ?_ (fun _ => ?_)
theorem handshakerlaw09_Refs.mono : ∀ a0 k, LeO (handshakerlaw09_Refs.f k a0) (handshakerlaw09_Refs.f (k + 1) a0) := by
 intro a0 k
 have ih0 := handshakerlaw09_Refs.mono_l k
 unfold handshakerlaw09_Refs.f
 repeat' first
  | (with_reducible exact ih0 _ _ _ _)
  | (with_reducible exact handshakerlaw08_Ref.mono _ _)
  | (with_reducible exact LeO.refl _)
  | (with_reducible exact LeO.none _)
  | (with_reducible refine LeO.ite ?_ ?_)
  | (with_reducible refine LeO.bind ?_ (fun _ => ?_))
  | exact ih0 _ _ _ _
  | exact handshakerlaw08_Ref.mono _ _
  | exact LeO.none _
  | refine LeO.ite ?_ ?_
  | refine LeO.bind ?_ (fun _ => ?_)
set_option maxHeartbeats 8000000 in
set_option maxRecDepth 100000 in
theorem handshakerlaw09_Refs.calls (k : Nat) (A0 : Option Addr) (c0 : Nat) (l0 : List (List (S53))) (r : List (List (S62))) (w : World) (hr0 : Kd.C (Kd.slice 53 k53) w A0 l0.length l0) (hc0 : l0.length ≤ c0) (h : handshakerlaw09_Refs.f k l0 = some r) :
 Calls Try.prog 13 #[.slice A0 l0.length c0] w fun e w' => ∃ v0_ : Value, e = .returned (v0_) ∧ Kd.R (Kd.slice 62 k62) 35 w' w.heap.size (fun _ => True) v0_ r ∧ Below w.heap.size w w' := by
 have HR0 := ak hr0
 have HC0 := ak hc0
 clear hr0 hc0
 have HB := ak (Below.refl w.heap.size w)
 have H : (handshakerlaw09_Refs.l0 k ([] : List (List (S62))) l0 (l0.length : Int) 0) = some r := h
 clear h
 have H' := ak H
 clear H
 go_enter Try.func13, Try.ntmps13
 go_wp2
 go_loopg [3, 8] k (fun kq v3 v8 w' => ∃ (x3_1 : List (List (S62))) (x8_1 : Int), v8 = .int .i64 x8_1 ∧ Aside0 (handshakerlaw09_Refs.l0 kq x3_1 l0 (l0.length : Int) x8_1 = some r) ∧ Aside0 (kq ≤ k) ∧ Aside0 (Kd.R (Kd.slice 62 k62) 35 w' w.heap.size (fun _ => True) v3 x3_1) ∧ Aside0 (Below w.heap.size w w'))
 case atStart => exact ⟨(([] : List (List (S62)))), (0), (by first | rfl | (simp; done) | (simp [*]; done)), H', ⟨Nat.le_refl _⟩, ⟨by first | exact Kd.R_nil _ _ _ _ _ | exact Kd.N_nil _ _ _ _ _ | exact Kd.V_nil _ _ _ _ _ | exact Kd.Q_nil _ _ _ _ _ | exact Kd.S_nil _ _ _ _ _⟩, ⟨bsv_⟩⟩
 case round =>
  clear H'
  try clear c1
  obtain ⟨x3_1, x8_1, rfl, HA, HK1, HO_3, HB⟩ := hrel
  cases gk with
  | zero => exact absurd HA.out (by simp [handshakerlaw09_Refs.l0])
  | succ k1 =>
   have H := HA.out
   clear HA
   simp only [handshakerlaw09_Refs.l0] at H
   by_cases c2 : x8_1 < (l0.length : Int)
   rotate_left
   · rw [if_neg c2] at H
     have c2b0 : decide (x8_1 < (l0.length : Int)) = false := decide_eq_false c2
     clear c2
     obtain rfl := Option.some.inj H
     go_wp2
     go_ret
     exact ⟨_, by first | rfl | (simp [errW_none, errW_some] <;> rfl) | (simp [*, errW_none, errW_some] <;> rfl), rq_ HO_3, bsv_⟩
   rw [if_pos c2] at H
   have c2b0 : decide (x8_1 < (l0.length : Int)) = true := decide_eq_true c2
   clear c2
   by_cases c3 : 0 ≤ x8_1
   rotate_left
   · rw [if_neg c3] at H
     exact absurd H (by simp)
   rw [if_pos c3] at H
   have c3b0 : decide (0 ≤ x8_1) = true := decide_eq_true c3
   clear c3
   by_cases c4 : x8_1 < (l0.length : Int)
   rotate_left
   · rw [if_neg c4] at H
     exact absurd H (by simp)
   rw [if_pos c4] at H
   have c4b0 : decide (x8_1 < (l0.length : Int)) = true := decide_eq_true c4
   clear c4
   obtain ⟨t343, A5, H⟩ := bd_ H
   by_cases c6 : x3_1.length < 5864062014805
   rotate_left
   · rw [if_neg c6] at H
     exact absurd H (by simp)
   rw [if_pos c6] at H
   have LMc6 := ak c6
   clear c6
   obtain ⟨y346, hy346⟩ : ∃ y_ : List (List (S62)), y_ = (x3_1 ++ [t343]) := ⟨_, rfl⟩
   replace H : (handshakerlaw09_Refs.l0 k1 y346 l0 (l0.length : Int) (wrap64 (x8_1 + 1))) = some r := rh_ hy346 H
   have Ny346 := ak hy346
   clear hy346
   have H' := ak H
   clear H
   have p342 : 0 ≤ (x8_1 : Int) := oda_
   have q342 : x8_1 < (l0.length : Int) := oda_
   obtain ⟨ad342, A342_0, c342_0, e342, hx342_0, hl342_0, hi342_0⟩ := at_L5 HR0.out x8_1 p342 q342
   cases e342
   replace hx342_0 := bl_ HB hx342_0
   have HR342_0 := ak hi342_0
   have HC342_0 := ak hl342_0
   clear hi342_0 hl342_0
   replace p342 := eq_true p342
   replace q342 := eq_true q342
   go_wp2_with (first | ((with_reducible refine gate_callee (f := 15) rfl ?_); refine goesL_ (some 14) rfl rfl Try.func15 (by kernel_rfl) rfl #[.slice A342_0 (rd_L5 l0 x8_1).length c342_0] rfl mp_ ?_; (with_reducible refine (handshakerlaw08_Ref.calls k1 _ _ (rd_L5 l0 x8_1) t343 _ ?side1 ?side2 A5.out).mono ?_); (case side1 => exact cb_ HR342_0 HB); (case side2 => exact HC342_0.out); rintro e w7 ⟨v344, rfl, ho0, hb⟩; refine ⟨_, rfl, ?_⟩; replace HO_3 := ak (Kd.R_elder' (rq_ HO_3) (Kd.S_base ho0) hb); replace HO345 := ak (Kd.S_lower ho0 bsz_); replace HB := ak (bst_ hb); (try clear hb); (try clear ho0); obtain ⟨Ao9, co9, eo9⟩ := Kd.S_slice HO345.out; subst eo9) | ((with_reducible refine gate_builtin (b := .append) (xs := #[.tmp 12, .tmp 15]) rfl ?_); at_builtin; refine Kd.R_append (Kd.slice 62 k62) (w0 := w) w.heap.size rfl (.tmp 12) (.tmp 15) 31 35 (.slice none 0 0) 24 rfl Try.underlying31 info35 rfl (by decide) (by omega) u3 x3_1 t343 [.slice Ao9 t343.length co9] (fun _ => True) (fun k_ => ((fun _ => True)) k_ ∧ some k_ ≠ (u3 : Value).ownBlock) rfl rfl ?aP (fun _ hk => hk) ?aF ?aO ?aB ?aS ?aL ?_; (case aP => exact Kd.M_row (Kd.R_mono (Kd.R_apart' ((Kd.S_R HO345.out)) (Kd.R_typed HO_3.out) (by decide)) (fun k_ hk => ⟨trivial, hk.2⟩))); (case aB => exact bsv_); (case aF => exact (fun _ _ => trivial)); (case aO => exact (Kd.R_mono (rq_ HO_3) (fun _ hk => trivial))); (case aS => exact bsz_); (case aL => have := LMc6.out; omega); intro v347 w8 ho hb hg hat; rw [← Ny346.out] at ho; replace HB := ak (hb); replace HO348 := ak (ho); clear HO_3; clear HO345; clear ho hb hg hat))
   go_roundg k1
   case measure => have := HK1.out; omega
   case rel => exact ⟨(y346), (wrap64 (x8_1 + 1)), (by first | rfl | (simp; done) | (simp [*]; done)), H', ⟨by have := HK1.out; omega⟩, ⟨rq_ HO348⟩, ⟨bsv_⟩⟩

end Go.Proofs.Ytpeblomhhofhkaa.H
