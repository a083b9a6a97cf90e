-- PRINTED by print.py (a twelfth state) out of the translation. Not trusted: Lean checks it.
import Derived.Test.YtpeblomhhofhkaaHx0
namespace Go.Proofs.Ytpeblomhhofhkaa.H
open Go.Proofs.Ytpeblomhhofhkaa.Ho
open Go.RowKit Go.Proofs.YtpeblomhhofhkaaW.PrintWords Go.Proofs.YtpeblomhhofhkaaW.PrintLast Go.Proofs.YtpeblomhhofhkaaW.PrintMore
attribute [local go_sem] max2_int min2_int max_two min_two max_three min_three max_four min_four   -- for this text's walks alone
set_option linter.unusedVariables false
set_option linter.unusedSimpArgs false

/-! ### code_deep: function 37 -/
mutual
def code_deep.l0 : Nat → List (S53) → Int → Int → Option (Int)
 | 0, _, _, _ => none
 | k + 1, x0, x3, x4 => if x4 < (x0.length : Int) then (if 0 ≤ x4 then (if 0 ≤ (wrap64 (x4 + 1)) then (if (wrap64 (x4 + 1)) ≤ (x0.length : Int) then ((some (x0.drop ((wrap64 (x4 + 1)) : Int).toNat : List (S53))).bind fun y143 => (if ((rd_T53 x0 x4).f0) = 7 then (if (wrap64 (((rd_T53 x0 x4).f1) + ((rd_T53 x0 x4).f2))) > (y143.length : Int) then (some (-1)) else (if 0 ≤ ((rd_T53 x0 x4).f1) then (if ((rd_T53 x0 x4).f1) ≤ (y143.length : Int) then ((code_deep.f k (y143.take (((rd_T53 x0 x4).f1) : Int).toNat)).bind fun t152 => (if ((rd_T53 x0 x4).f1) ≤ (wrap64 (((rd_T53 x0 x4).f1) + ((rd_T53 x0 x4).f2))) then (if (wrap64 (((rd_T53 x0 x4).f1) + ((rd_T53 x0 x4).f2))) ≤ (y143.length : Int) then ((code_deep.f k ((y143.take ((wrap64 (((rd_T53 x0 x4).f1) + ((rd_T53 x0 x4).f2))) : Int).toNat).drop (((rd_T53 x0 x4).f1) : Int).toNat)).bind fun t157 => (if t152 < 0 then (some (-1)) else (if t157 < 0 then (some (-1)) else (code_deep.l0 k x0 (mx x3 (wrap64 (1 + (mx t152 t157)))) (wrap64 ((wrap64 (x4 + (wrap64 (((rd_T53 x0 x4).f1) + ((rd_T53 x0 x4).f2))))) + 1)))))) else (none)) else (none))) else (none)) else (none))) else (if ((rd_T53 x0 x4).f0) = 4 then (if ((rd_T53 x0 x4).f1) > (y143.length : Int) then (some (-1)) else (code_deep.l0 k x0 x3 (wrap64 (x4 + 1)))) else (code_deep.l0 k x0 x3 (wrap64 (x4 + 1)))))) else (none)) else (none)) else (none)) else (some x3)
def code_deep.f : Nat → List (S53) → Option (Int)
 | 0, _ => none
 | k + 1, l0 => code_deep.l0 k l0 0 0
end
theorem code_deep.mono_l : ∀ k, (∀ y0, LeO (code_deep.f k y0) (code_deep.f (k + 1) y0)) ∧ (∀ y0 y1 y2, LeO (code_deep.l0 k y0 y1 y2) (code_deep.l0 (k + 1) y0 y1 y2))
 | 0 => ⟨fun _ r h => by simp [code_deep.f] at h, fun _ _ _ r h => by simp [code_deep.l0] at h⟩
 | k + 1 => by
  obtain ⟨ih0, ih1⟩ := code_deep.mono_l k
  refine ⟨?_, ?_⟩
  all_goals intros
  all_goals first | unfold code_deep.f | unfold code_deep.l0
  all_goals repeat' first | exact LeO.refl _ | exact LeO.none _ | (with_reducible apply ih0) | (with_reducible apply ih1) | (with_reducible refine LeO.ite ?_ ?_) | (with_reducible refine LeO.bind ?_ (fun _ => ?_)) | apply ih0 | apply ih1 | refine LeO.ite ?_ ?_ | refine LeO.bind ?_ (fun _ => ?_)
theorem code_deep.mono : ∀ a0 k, LeO (code_deep.f k a0) (code_deep.f (k + 1) a0) := by
 intro a0 k
 obtain ⟨ih0, ih1⟩ := code_deep.mono_l k
 exact ih0 a0
def code_deep.T5 : Bool × List (List Nat × List Nat) := (true, [([], []), ([], []), ([0, 1], [0, 1]), ([2], [2]), ([], []), ([], []), ([5], [5]), ([4, 6], [4, 6]), ([], []), ([8, 3, 0, 1, 2, 3, 8], [3, 8]), ([7, 9, 0, 1, 2, 3, 4, 5, 6, 7, 8, 9], [7])])
def code_deep.B5 : List Nat := [0, 0, 3, 7, 0, 0, 32, 112, 0, 271, 1023]
theorem code_deep.tab5 : rtab .any (opsOf Try.f37 5) = code_deep.T5 := by kernel_rfl
theorem code_deep.bits5 : waitsOk code_deep.T5.2 code_deep.B5 = true := by kernel_rfl
def code_deep.T11 : Bool × List (List Nat × List Nat) := (true, [([], []), ([], []), ([1], [1]), ([0, 2], [0, 2]), ([3], [3]), ([], []), ([], []), ([6], [6]), ([], []), ([8], [8]), ([], []), ([10], [10]), ([9, 11], [9, 11]), ([5, 7, 12], [5, 7, 12]), ([13, 4], [13]), ([4, 14, 0, 1, 2, 3, 4], [4]), ([14, 15, 0, 1, 2, 3, 4, 5, 6, 7, 8, 9, 10, 11, 12, 13, 14, 15], [14])])
def code_deep.B11 : List Nat := [0, 0, 2, 7, 15, 0, 0, 64, 0, 256, 0, 1024, 3840, 8160, 16383, 32767, 65535]
theorem code_deep.tab11 : rtab .any (opsOf Try.f37 11) = code_deep.T11 := by kernel_rfl
theorem code_deep.bits11 : waitsOk code_deep.T11.2 code_deep.B11 = true := by kernel_rfl
set_option maxHeartbeats 8000000 in
set_option maxRecDepth 100000 in
theorem code_deep.calls (k : Nat) : ∀ (A0 : Option Addr) (c0 : Nat) (l0 : List (S53)) (r : Int) (w : World) (hr0 : Kd.C k53 w A0 l0.length l0) (hc0 : l0.length ≤ c0) (h : code_deep.f k l0 = some r),
 Calls Try.prog 37 #[.slice A0 l0.length c0] w fun e w' => e = .returned (.int .i64 r) ∧ Below w.heap.size w w' := by
 induction k using Nat.strongRecOn with
 | _ k ih =>
 intro A0 c0 l0 r w hr0 hc0 h
 cases k with
 | zero => exact absurd h (by simp [code_deep.f])
 | succ k =>
 simp only [code_deep.f] at h
 have hu53 := Try.underlying53
 have HR0 := ak hr0
 have HC0 := ak hc0
 clear hr0 hc0
 have HB := ak (Below.refl w.heap.size w)
 have H : (code_deep.l0 k l0 0 0) = some r := h
 clear h
 have H' := ak H
 clear H
 go_enter Try.func37, Try.ntmps37
 go_wp2
 go_loopg [3, 4] k (fun kq v3 v4 w' => ∃ (x3_1 : Int) (x4_1 : Int), v3 = .int .i64 x3_1 ∧ v4 = .int .i64 x4_1 ∧ Aside0 (code_deep.l0 kq l0 x3_1 x4_1 = some r) ∧ Aside0 (kq ≤ k) ∧ Aside0 (Below w.heap.size w w'))
 case atStart => exact ⟨(0), (0), (by first | rfl | (simp; done) | (simp [*]; done)), (by first | rfl | (simp; done) | (simp [*]; done)), H', ⟨Nat.le_refl _⟩, ⟨bsv_⟩⟩
 case round =>
  clear H'
  obtain ⟨x3_1, x4_1, rfl, rfl, HA, HK1, HB⟩ := hrel
  cases gk with
  | zero => exact absurd HA.out (by simp [code_deep.l0])
  | succ k1 =>
   have H := HA.out
   clear HA
   simp only [code_deep.l0] at H
   by_cases c2 : x4_1 < (l0.length : Int)
   rotate_left
   · rw [if_neg c2] at H
     have c2b0 : decide (x4_1 < (l0.length : Int)) = false := decide_eq_false c2
     clear c2
     obtain rfl := Option.some.inj H
     go_wp2
     go_ret
     exact ⟨by first | rfl | (simp [errW_none, errW_some] <;> rfl) | (simp [*, errW_none, errW_some] <;> rfl), bsv_⟩
   rw [if_pos c2] at H
   have c2b0 : decide (x4_1 < (l0.length : Int)) = true := decide_eq_true c2
   clear c2
   by_cases c3 : 0 ≤ x4_1
   rotate_left
   · rw [if_neg c3] at H
     exact absurd H (by simp)
   rw [if_pos c3] at H
   have c3b0 : decide (0 ≤ x4_1) = true := decide_eq_true c3
   clear c3
   obtain ⟨ji4, hji4⟩ : ∃ j_ : Int, (wrap64 (x4_1 + 1)) = j_ := ⟨_, rfl⟩
   replace H : (if 0 ≤ (ji4) then (if (ji4) ≤ (l0.length : Int) then ((some (l0.drop ((ji4) : Int).toNat : List (S53))).bind fun y143 => (if ((rd_T53 l0 x4_1).f0) = 7 then (if (wrap64 (((rd_T53 l0 x4_1).f1) + ((rd_T53 l0 x4_1).f2))) > (y143.length : Int) then (some (-1)) else (if 0 ≤ ((rd_T53 l0 x4_1).f1) then (if ((rd_T53 l0 x4_1).f1) ≤ (y143.length : Int) then ((code_deep.f k1 (y143.take (((rd_T53 l0 x4_1).f1) : Int).toNat)).bind fun t152 => (if ((rd_T53 l0 x4_1).f1) ≤ (wrap64 (((rd_T53 l0 x4_1).f1) + ((rd_T53 l0 x4_1).f2))) then (if (wrap64 (((rd_T53 l0 x4_1).f1) + ((rd_T53 l0 x4_1).f2))) ≤ (y143.length : Int) then ((code_deep.f k1 ((y143.take ((wrap64 (((rd_T53 l0 x4_1).f1) + ((rd_T53 l0 x4_1).f2))) : Int).toNat).drop (((rd_T53 l0 x4_1).f1) : Int).toNat)).bind fun t157 => (if t152 < 0 then (some (-1)) else (if t157 < 0 then (some (-1)) else (code_deep.l0 k1 l0 (mx x3_1 (wrap64 (1 + (mx t152 t157)))) (wrap64 ((wrap64 (x4_1 + (wrap64 (((rd_T53 l0 x4_1).f1) + ((rd_T53 l0 x4_1).f2))))) + 1)))))) else (none)) else (none))) else (none)) else (none))) else (if ((rd_T53 l0 x4_1).f0) = 4 then (if ((rd_T53 l0 x4_1).f1) > (y143.length : Int) then (some (-1)) else (code_deep.l0 k1 l0 x3_1 ji4)) else (code_deep.l0 k1 l0 x3_1 ji4)))) else (none)) else (none)) = some r := by first | (rw [hji4] at H; exact H) | (simp only [hji4] at H ⊢; exact H)
   have hji4w : (IntKind.i64.wrap (x4_1 + 1)) = ji4 := (i64_w _).trans hji4
   by_cases c5 : 0 ≤ (ji4)
   rotate_left
   · rw [if_neg c5] at H
     exact absurd H (by simp)
   rw [if_pos c5] at H
   have c5b0 := eq_true c5
   have c5b1 : decide (0 ≤ (ji4)) = true := decide_eq_true c5
   clear c5
   by_cases c6 : (ji4) ≤ (l0.length : Int)
   rotate_left
   · rw [if_neg c6] at H
     exact absurd H (by simp)
   rw [if_pos c6] at H
   have c6b0 := eq_true c6
   have c6b1 : decide ((ji4) ≤ (l0.length : Int)) = true := decide_eq_true c6
   clear c6
   obtain ⟨y143, hy143⟩ : ∃ y_ : List (S53), y_ = (l0.drop ((ji4) : Int).toNat) := ⟨_, rfl⟩
   replace H : (if ((rd_T53 l0 x4_1).f0) = 7 then (if (wrap64 (((rd_T53 l0 x4_1).f1) + ((rd_T53 l0 x4_1).f2))) > (y143.length : Int) then (some (-1)) else (if 0 ≤ ((rd_T53 l0 x4_1).f1) then (if ((rd_T53 l0 x4_1).f1) ≤ (y143.length : Int) then ((code_deep.f k1 (y143.take (((rd_T53 l0 x4_1).f1) : Int).toNat)).bind fun t152 => (if ((rd_T53 l0 x4_1).f1) ≤ (wrap64 (((rd_T53 l0 x4_1).f1) + ((rd_T53 l0 x4_1).f2))) then (if (wrap64 (((rd_T53 l0 x4_1).f1) + ((rd_T53 l0 x4_1).f2))) ≤ (y143.length : Int) then ((code_deep.f k1 ((y143.take ((wrap64 (((rd_T53 l0 x4_1).f1) + ((rd_T53 l0 x4_1).f2))) : Int).toNat).drop (((rd_T53 l0 x4_1).f1) : Int).toNat)).bind fun t157 => (if t152 < 0 then (some (-1)) else (if t157 < 0 then (some (-1)) else (code_deep.l0 k1 l0 (mx x3_1 (wrap64 (1 + (mx t152 t157)))) (wrap64 ((wrap64 (x4_1 + (wrap64 (((rd_T53 l0 x4_1).f1) + ((rd_T53 l0 x4_1).f2))))) + 1)))))) else (none)) else (none))) else (none)) else (none))) else (if ((rd_T53 l0 x4_1).f0) = 4 then (if ((rd_T53 l0 x4_1).f1) > (y143.length : Int) then (some (-1)) else (code_deep.l0 k1 l0 x3_1 ji4)) else (code_deep.l0 k1 l0 x3_1 ji4))) = some r := rh_ hy143 H
   have Ny143 := ak hy143
   clear hy143
   by_cases c7 : ((rd_T53 l0 x4_1).f0) = 7
   rotate_left
   · rw [if_neg c7] at H
     have c7b0 : (((rd_T53 l0 x4_1).f0) == 7) = false := beq_eq_false_iff_ne.mpr c7
     have c7b1 : (((rd_T53 l0 x4_1).f0) != 7) = true := bne_iff_ne.mpr c7
     by_cases c71 : ((rd_T53 l0 x4_1).f0) = 4
     rotate_left
     · rw [if_neg c71] at H
       have c71b0 : (((rd_T53 l0 x4_1).f0) == 4) = false := beq_eq_false_iff_ne.mpr c71
       have c71b1 : (((rd_T53 l0 x4_1).f0) != 4) = true := bne_iff_ne.mpr c71
       have H' := ak H
       clear H
       try go_wp2
       have n0_ := ak (below_drew1 HB.out)
       clear HB
       have HB := n0_
       clear n0_
       have p142 : 0 ≤ (x4_1 : Int) := oda_
       have q142 : x4_1 < (l0.length : Int) := oda_
       obtain ⟨ad142, A142_3, c142_3, e142, hx142_0, hx142_1, hx142_2, hx142_3, hl142_3, hi142_3⟩ := at_T53 HR0.out x4_1 p142 q142
       have hw142_3 := hx142_3
       have hw142_2 := hx142_2
       have hw142_1 := hx142_1
       have hw142_0 := hx142_0
       cases e142
       replace hx142_0 := bl_ HB hx142_0
       replace hx142_1 := bl_ HB hx142_1
       replace hx142_2 := bl_ HB hx142_2
       replace hx142_3 := bl_ HB hx142_3
       have HR142_3 := ak hi142_3
       have HC142_3 := ak hl142_3
       clear hi142_3 hl142_3
       replace p142 := eq_true p142
       replace q142 := eq_true q142
       have q90 : ((ji4) : Int) ≤ ((l0.length : Int) : Int) := oda_
       obtain ⟨i090, hi090, _, hsz90, _⟩ := info_parts info53
       have hroom90 : l0.length ≤ c0 := HC0.out
       have hC90 : Kd.C k53 _ (some ad142) l0.length l0 := HR0.out
       have q090 : (0 : Int) ≤ ((ji4) : Int) := oda_
       have hcut90 := cut_from (P := Try.prog) 33 53 .i64 Try.underlying33 hi090 4 hsz90 (some ad142) l0.length c0 (ji4) q090 q90
       have hr90 := Kd.C_drop (m := ((ji4) : Int).toNat) (c := c0) hC90 (by omega) hroom90
       obtain ⟨A90, hA90⟩ : ∃ A1, A1 = (if c0 = ((ji4) : Int).toNat then (some ad142) else ((some ad142) : Option Addr).map (·.add (((ji4) : Int).toNat * 4))) := ⟨_, rfl⟩
       obtain ⟨c90, hc90⟩ : ∃ c1, c1 = c0 - ((ji4) : Int).toNat := ⟨_, rfl⟩
       have hy90 : y143.length = l0.length - ((ji4) : Int).toNat := (by rw [Ny143.out, List.length_drop] <;> omega)
       rw [show (l0).drop ((ji4) : Int).toNat = y143 from Ny143.out.symm] at hr90
       replace hr90 : Kd.C k53 _ A90 y143.length y143 := (by rw [hA90]; exact hr90)
       rw [← hy90, ← hA90, ← hc90] at hcut90
       have HR146 := ak hr90
       have HC146 := ak (show y143.length ≤ c90 from by rw [hy90, hc90]; exact Nat.sub_le_sub_right hroom90 _)
       clear hr90 hC90 hroom90 hi090 hsz90 hc90
       have KY90 := ak hy90
       have KA90 := ak hA90
       clear hy90 hA90
       replace q90 := eq_true q90
       refine start_ (n := 11) (S := fun w' => w'.cell? (ad142.add ((x4_1).toNat * 4)) = some (.int .i64 ((rd_T53 l0 x4_1).f0)) ∧ w'.cell? ⟨(ad142.add ((x4_1).toNat * 4)).block, (ad142.add ((x4_1).toNat * 4)).off + 1, none⟩ = some (.int .i64 ((rd_T53 l0 x4_1).f1)) ∧ w'.cell? ⟨(ad142.add ((x4_1).toNat * 4)).block, (ad142.add ((x4_1).toNat * 4)).off + 2, none⟩ = some (.int .i64 ((rd_T53 l0 x4_1).f2)) ∧ w'.cell? ⟨(ad142.add ((x4_1).toNat * 4)).block, (ad142.add ((x4_1).toNat * 4)).off + 3, none⟩ = some (.slice A142_3 ((rd_T53 l0 x4_1).f3).length c142_3)) (ds := []) (fb 11 0) (by kernel_rfl) rfl rfl ⟨(bl_ HB hw142_0), (bl_ HB hw142_1), (bl_ HB hw142_2), (bl_ HB hw142_3)⟩ (fun hHeld => ?_); refine with_tabW code_deep.tab5 code_deep.bits5 (fun HT_ HW_ => ?_)
       generalize wr.drew = w89 at HB HR142_3 HR146 hx142_0 hx142_1 hx142_2 hx142_3 hHeld ⊢
       refine pu_ 0 (some 15) (fb 11 1) HT_ ?_
       refine pu_ 1 (some 16) (fb 11 3) HT_ ?_
       refine pu_ 2 (some 17) (fb 11 7) HT_ ?_
       refine pu_ 4 (some 19) (fb 11 23) HT_ ?_
       refine pu_ 5 (some 20) (fb 11 55) HT_ ?_
       refine pu_ 6 (some 21) (fb 11 119) HT_ ?_
       refine pu_ 7 (some 22) (fb 11 247) HT_ ?_
       refine ta4_ 3 (some 18) (fb 11 255) HT_ HW_ hHeld ?_
       refine one_ (i := 8) (N := some 5) (fb 11 511) rfl rfl (one_of HT_.out (by kernel_rfl)) (by decide) (fun K hK => ?_)
       refine box_step ?hg (N := 5) ?hd (cs := #[.int .i64 0, .int .i64 0, .int .i64 0, .slice none 0 0]) (t := 53) ?hr ?_; (case hd => rfl); (case hg => rfl); (case hr => first | (go_simp; done) | (go_simp; rfl))
       intro gb147 hg w91 hbox hb
       have n0_ := ak (bst_ hb)
       have n1_ := ak (hbox)
       have n2_ := ak ((by rw [hg]; exact bsz_ : w.heap.size ≤ gb147))
       have n3_ := ak ((by rw [hg]; exact bsz_ : w.heap.size ≤ gb147))
       clear HB
       have HB := n0_
       have BK147 := n1_
       have GW147 := n2_
       have GE147 := n3_
       clear n0_ n1_ n2_ n3_
       clear hb hbox hg
       refine hK.out _ _ ⟨(bl_ HB hw142_0), (bl_ HB hw142_1), (bl_ HB hw142_2), (bl_ HB hw142_3)⟩ (fun hHeld => ?_)
       clear hK K
       refine no_ (some 5) ?_
       refine one_ (i := 9) (N := none) (fb 11 1023) rfl rfl (one_of HT_.out (by kernel_rfl)) (by decide) (fun K hK => ?_)
       have hs92 : w91.cell? ⟨gb147, 0, none⟩ = some (.int .i64 0) := (blk_cell BK147.out 0).trans rfl
       have hfs92 := blk_frozen BK147.out 0
       have hs93 : w91.cell? ⟨gb147, 1, none⟩ = some (.int .i64 0) := (blk_cell BK147.out 1).trans rfl
       have hfs93 := blk_frozen BK147.out 1
       have hs94 : w91.cell? ⟨gb147, 2, none⟩ = some (.int .i64 0) := (blk_cell BK147.out 2).trans rfl
       have hfs94 := blk_frozen BK147.out 2
       have hs95 : w91.cell? ⟨gb147, 3, none⟩ = some (.slice none 0 0) := (blk_cell BK147.out 3).trans rfl
       have hfs95 := blk_frozen BK147.out 3
       refine skip_ (w1 := ?_) (by rfl) rfl ?_ ?_
       rotate_left
       · go_simp
         rfl
       refine hK.out _ _ ⟨((cell_far (p := ⟨gb147, _, none⟩) (fl_ hw142_0 GW147) _).trans (((cell_far (p := ⟨gb147, _, none⟩) (fl_ hw142_0 GW147) _).trans (((cell_far (p := ⟨gb147, _, none⟩) (fl_ hw142_0 GW147) _).trans (((cell_far (p := ⟨gb147, _, none⟩) (fl_ hw142_0 GW147) _).trans (hHeld.1)))))))), ((cell_far (p := ⟨gb147, _, none⟩) (fl_ hw142_1 GW147) _).trans (((cell_far (p := ⟨gb147, _, none⟩) (fl_ hw142_1 GW147) _).trans (((cell_far (p := ⟨gb147, _, none⟩) (fl_ hw142_1 GW147) _).trans (((cell_far (p := ⟨gb147, _, none⟩) (fl_ hw142_1 GW147) _).trans (hHeld.2.1)))))))), ((cell_far (p := ⟨gb147, _, none⟩) (fl_ hw142_2 GW147) _).trans (((cell_far (p := ⟨gb147, _, none⟩) (fl_ hw142_2 GW147) _).trans (((cell_far (p := ⟨gb147, _, none⟩) (fl_ hw142_2 GW147) _).trans (((cell_far (p := ⟨gb147, _, none⟩) (fl_ hw142_2 GW147) _).trans (hHeld.2.2.1)))))))), ((cell_far (p := ⟨gb147, _, none⟩) (fl_ hw142_3 GW147) _).trans (((cell_far (p := ⟨gb147, _, none⟩) (fl_ hw142_3 GW147) _).trans (((cell_far (p := ⟨gb147, _, none⟩) (fl_ hw142_3 GW147) _).trans (((cell_far (p := ⟨gb147, _, none⟩) (fl_ hw142_3 GW147) _).trans (hHeld.2.2.2))))))))⟩ (fun hHeld => ?_)
       clear hK K
       refine pu_ 10 (some 6) (fb 11 2047) HT_ ?_
       refine done_ (done_of HT_.out (by kernel_rfl)) ?_
       obtain ⟨hcz96_0, hcz96_1, hcz96_2, hcz96_3, hfz96_0, hfz96_1, hfz96_2, hfz96_3⟩ := bz4_ BK147
       try go_wp2
       go_roundg k1
       case measure => have := HK1.out; omega
       case rel => exact ⟨(x3_1), (ji4), (by first | rfl | (simp; done) | (simp [*]; done)), (by first | rfl | (simp; done) | (simp only [← hji4] <;> (first | rfl | simp)) | (simp [*]; done)), H', ⟨by have := HK1.out; omega⟩, ⟨bsw_⟩⟩
     rw [if_pos c71] at H
     have c71b0 : (((rd_T53 l0 x4_1).f0) == 4) = true := beq_iff_eq.mpr c71
     have c71b1 : (((rd_T53 l0 x4_1).f0) != 4) = false := bne_eq_false_iff_eq.mpr c71
     clear c71
     by_cases c72 : ((rd_T53 l0 x4_1).f1) > (y143.length : Int)
     · rw [if_pos c72] at H
       have c72b0 : decide ((y143.length : Int) < ((rd_T53 l0 x4_1).f1)) = true := decide_eq_true c72
       clear c72
       obtain rfl := Option.some.inj H
       try go_wp2
       have n0_ := ak (below_drew1 HB.out)
       clear HB
       have HB := n0_
       clear n0_
       have p142 : 0 ≤ (x4_1 : Int) := oda_
       have q142 : x4_1 < (l0.length : Int) := oda_
       obtain ⟨ad142, A142_3, c142_3, e142, hx142_0, hx142_1, hx142_2, hx142_3, hl142_3, hi142_3⟩ := at_T53 HR0.out x4_1 p142 q142
       have hw142_3 := hx142_3
       have hw142_2 := hx142_2
       have hw142_1 := hx142_1
       have hw142_0 := hx142_0
       cases e142
       replace hx142_0 := bl_ HB hx142_0
       replace hx142_1 := bl_ HB hx142_1
       replace hx142_2 := bl_ HB hx142_2
       replace hx142_3 := bl_ HB hx142_3
       have HR142_3 := ak hi142_3
       have HC142_3 := ak hl142_3
       clear hi142_3 hl142_3
       replace p142 := eq_true p142
       replace q142 := eq_true q142
       have q74 : ((ji4) : Int) ≤ ((l0.length : Int) : Int) := oda_
       obtain ⟨i074, hi074, _, hsz74, _⟩ := info_parts info53
       have hroom74 : l0.length ≤ c0 := HC0.out
       have hC74 : Kd.C k53 _ (some ad142) l0.length l0 := HR0.out
       have q074 : (0 : Int) ≤ ((ji4) : Int) := oda_
       have hcut74 := cut_from (P := Try.prog) 33 53 .i64 Try.underlying33 hi074 4 hsz74 (some ad142) l0.length c0 (ji4) q074 q74
       have hr74 := Kd.C_drop (m := ((ji4) : Int).toNat) (c := c0) hC74 (by omega) hroom74
       obtain ⟨A74, hA74⟩ : ∃ A1, A1 = (if c0 = ((ji4) : Int).toNat then (some ad142) else ((some ad142) : Option Addr).map (·.add (((ji4) : Int).toNat * 4))) := ⟨_, rfl⟩
       obtain ⟨c74, hc74⟩ : ∃ c1, c1 = c0 - ((ji4) : Int).toNat := ⟨_, rfl⟩
       have hy74 : y143.length = l0.length - ((ji4) : Int).toNat := (by rw [Ny143.out, List.length_drop] <;> omega)
       rw [show (l0).drop ((ji4) : Int).toNat = y143 from Ny143.out.symm] at hr74
       replace hr74 : Kd.C k53 _ A74 y143.length y143 := (by rw [hA74]; exact hr74)
       rw [← hy74, ← hA74, ← hc74] at hcut74
       have HR146 := ak hr74
       have HC146 := ak (show y143.length ≤ c74 from by rw [hy74, hc74]; exact Nat.sub_le_sub_right hroom74 _)
       clear hr74 hC74 hroom74 hi074 hsz74 hc74
       have KY74 := ak hy74
       have KA74 := ak hA74
       clear hy74 hA74
       replace q74 := eq_true q74
       refine start_ (n := 11) (S := fun w' => w'.cell? (ad142.add ((x4_1).toNat * 4)) = some (.int .i64 ((rd_T53 l0 x4_1).f0)) ∧ w'.cell? ⟨(ad142.add ((x4_1).toNat * 4)).block, (ad142.add ((x4_1).toNat * 4)).off + 1, none⟩ = some (.int .i64 ((rd_T53 l0 x4_1).f1)) ∧ w'.cell? ⟨(ad142.add ((x4_1).toNat * 4)).block, (ad142.add ((x4_1).toNat * 4)).off + 2, none⟩ = some (.int .i64 ((rd_T53 l0 x4_1).f2)) ∧ w'.cell? ⟨(ad142.add ((x4_1).toNat * 4)).block, (ad142.add ((x4_1).toNat * 4)).off + 3, none⟩ = some (.slice A142_3 ((rd_T53 l0 x4_1).f3).length c142_3)) (ds := []) (fb 11 0) (by kernel_rfl) rfl rfl ⟨(bl_ HB hw142_0), (bl_ HB hw142_1), (bl_ HB hw142_2), (bl_ HB hw142_3)⟩ (fun hHeld => ?_); refine with_tabW code_deep.tab5 code_deep.bits5 (fun HT_ HW_ => ?_)
       generalize wr.drew = w73 at HB HR142_3 HR146 hx142_0 hx142_1 hx142_2 hx142_3 hHeld ⊢
       refine pu_ 0 (some 15) (fb 11 1) HT_ ?_
       refine pu_ 1 (some 16) (fb 11 3) HT_ ?_
       refine pu_ 2 (some 17) (fb 11 7) HT_ ?_
       refine pu_ 4 (some 19) (fb 11 23) HT_ ?_
       refine pu_ 5 (some 20) (fb 11 55) HT_ ?_
       refine pu_ 6 (some 21) (fb 11 119) HT_ ?_
       refine pu_ 7 (some 22) (fb 11 247) HT_ ?_
       refine ta4_ 3 (some 18) (fb 11 255) HT_ HW_ hHeld ?_
       refine one_ (i := 8) (N := some 5) (fb 11 511) rfl rfl (one_of HT_.out (by kernel_rfl)) (by decide) (fun K hK => ?_)
       refine box_step ?hg (N := 5) ?hd (cs := #[.int .i64 0, .int .i64 0, .int .i64 0, .slice none 0 0]) (t := 53) ?hr ?_; (case hd => rfl); (case hg => rfl); (case hr => first | (go_simp; done) | (go_simp; rfl))
       intro gb147 hg w75 hbox hb
       have n0_ := ak (bst_ hb)
       have n1_ := ak (hbox)
       have n2_ := ak ((by rw [hg]; exact bsz_ : w.heap.size ≤ gb147))
       have n3_ := ak ((by rw [hg]; exact bsz_ : w.heap.size ≤ gb147))
       clear HB
       have HB := n0_
       have BK147 := n1_
       have GW147 := n2_
       have GE147 := n3_
       clear n0_ n1_ n2_ n3_
       clear hb hbox hg
       refine hK.out _ _ ⟨(bl_ HB hw142_0), (bl_ HB hw142_1), (bl_ HB hw142_2), (bl_ HB hw142_3)⟩ (fun hHeld => ?_)
       clear hK K
       refine no_ (some 5) ?_
       refine one_ (i := 9) (N := none) (fb 11 1023) rfl rfl (one_of HT_.out (by kernel_rfl)) (by decide) (fun K hK => ?_)
       have hs76 : w75.cell? ⟨gb147, 0, none⟩ = some (.int .i64 0) := (blk_cell BK147.out 0).trans rfl
       have hfs76 := blk_frozen BK147.out 0
       have hs77 : w75.cell? ⟨gb147, 1, none⟩ = some (.int .i64 0) := (blk_cell BK147.out 1).trans rfl
       have hfs77 := blk_frozen BK147.out 1
       have hs78 : w75.cell? ⟨gb147, 2, none⟩ = some (.int .i64 0) := (blk_cell BK147.out 2).trans rfl
       have hfs78 := blk_frozen BK147.out 2
       have hs79 : w75.cell? ⟨gb147, 3, none⟩ = some (.slice none 0 0) := (blk_cell BK147.out 3).trans rfl
       have hfs79 := blk_frozen BK147.out 3
       refine skip_ (w1 := ?_) (by rfl) rfl ?_ ?_
       rotate_left
       · go_simp
         rfl
       refine hK.out _ _ ⟨((cell_far (p := ⟨gb147, _, none⟩) (fl_ hw142_0 GW147) _).trans (((cell_far (p := ⟨gb147, _, none⟩) (fl_ hw142_0 GW147) _).trans (((cell_far (p := ⟨gb147, _, none⟩) (fl_ hw142_0 GW147) _).trans (((cell_far (p := ⟨gb147, _, none⟩) (fl_ hw142_0 GW147) _).trans (hHeld.1)))))))), ((cell_far (p := ⟨gb147, _, none⟩) (fl_ hw142_1 GW147) _).trans (((cell_far (p := ⟨gb147, _, none⟩) (fl_ hw142_1 GW147) _).trans (((cell_far (p := ⟨gb147, _, none⟩) (fl_ hw142_1 GW147) _).trans (((cell_far (p := ⟨gb147, _, none⟩) (fl_ hw142_1 GW147) _).trans (hHeld.2.1)))))))), ((cell_far (p := ⟨gb147, _, none⟩) (fl_ hw142_2 GW147) _).trans (((cell_far (p := ⟨gb147, _, none⟩) (fl_ hw142_2 GW147) _).trans (((cell_far (p := ⟨gb147, _, none⟩) (fl_ hw142_2 GW147) _).trans (((cell_far (p := ⟨gb147, _, none⟩) (fl_ hw142_2 GW147) _).trans (hHeld.2.2.1)))))))), ((cell_far (p := ⟨gb147, _, none⟩) (fl_ hw142_3 GW147) _).trans (((cell_far (p := ⟨gb147, _, none⟩) (fl_ hw142_3 GW147) _).trans (((cell_far (p := ⟨gb147, _, none⟩) (fl_ hw142_3 GW147) _).trans (((cell_far (p := ⟨gb147, _, none⟩) (fl_ hw142_3 GW147) _).trans (hHeld.2.2.2))))))))⟩ (fun hHeld => ?_)
       clear hK K
       refine pu_ 10 (some 6) (fb 11 2047) HT_ ?_
       refine done_ (done_of HT_.out (by kernel_rfl)) ?_
       obtain ⟨hcz80_0, hcz80_1, hcz80_2, hcz80_3, hfz80_0, hfz80_1, hfz80_2, hfz80_3⟩ := bz4_ BK147
       try go_wp2
       go_ret
       exact ⟨by first | rfl | (simp [errW_none, errW_some] <;> rfl) | (simp only [← hji4]; first | rfl | (simp [errW_none, errW_some] <;> rfl)) | (simp [*, errW_none, errW_some] <;> rfl), bsw_⟩
     rw [if_neg c72] at H
     have c72b0 : decide ((y143.length : Int) < ((rd_T53 l0 x4_1).f1)) = false := decide_eq_false c72
     clear c72
     have H' := ak H
     clear H
     try go_wp2
     have n0_ := ak (below_drew1 HB.out)
     clear HB
     have HB := n0_
     clear n0_
     have p142 : 0 ≤ (x4_1 : Int) := oda_
     have q142 : x4_1 < (l0.length : Int) := oda_
     obtain ⟨ad142, A142_3, c142_3, e142, hx142_0, hx142_1, hx142_2, hx142_3, hl142_3, hi142_3⟩ := at_T53 HR0.out x4_1 p142 q142
     have hw142_3 := hx142_3
     have hw142_2 := hx142_2
     have hw142_1 := hx142_1
     have hw142_0 := hx142_0
     cases e142
     replace hx142_0 := bl_ HB hx142_0
     replace hx142_1 := bl_ HB hx142_1
     replace hx142_2 := bl_ HB hx142_2
     replace hx142_3 := bl_ HB hx142_3
     have HR142_3 := ak hi142_3
     have HC142_3 := ak hl142_3
     clear hi142_3 hl142_3
     replace p142 := eq_true p142
     replace q142 := eq_true q142
     have q82 : ((ji4) : Int) ≤ ((l0.length : Int) : Int) := oda_
     obtain ⟨i082, hi082, _, hsz82, _⟩ := info_parts info53
     have hroom82 : l0.length ≤ c0 := HC0.out
     have hC82 : Kd.C k53 _ (some ad142) l0.length l0 := HR0.out
     have q082 : (0 : Int) ≤ ((ji4) : Int) := oda_
     have hcut82 := cut_from (P := Try.prog) 33 53 .i64 Try.underlying33 hi082 4 hsz82 (some ad142) l0.length c0 (ji4) q082 q82
     have hr82 := Kd.C_drop (m := ((ji4) : Int).toNat) (c := c0) hC82 (by omega) hroom82
     obtain ⟨A82, hA82⟩ : ∃ A1, A1 = (if c0 = ((ji4) : Int).toNat then (some ad142) else ((some ad142) : Option Addr).map (·.add (((ji4) : Int).toNat * 4))) := ⟨_, rfl⟩
     obtain ⟨c82, hc82⟩ : ∃ c1, c1 = c0 - ((ji4) : Int).toNat := ⟨_, rfl⟩
     have hy82 : y143.length = l0.length - ((ji4) : Int).toNat := (by rw [Ny143.out, List.length_drop] <;> omega)
     rw [show (l0).drop ((ji4) : Int).toNat = y143 from Ny143.out.symm] at hr82
     replace hr82 : Kd.C k53 _ A82 y143.length y143 := (by rw [hA82]; exact hr82)
     rw [← hy82, ← hA82, ← hc82] at hcut82
     have HR146 := ak hr82
     have HC146 := ak (show y143.length ≤ c82 from by rw [hy82, hc82]; exact Nat.sub_le_sub_right hroom82 _)
     clear hr82 hC82 hroom82 hi082 hsz82 hc82
     have KY82 := ak hy82
     have KA82 := ak hA82
     clear hy82 hA82
     replace q82 := eq_true q82
     refine start_ (n := 11) (S := fun w' => w'.cell? (ad142.add ((x4_1).toNat * 4)) = some (.int .i64 ((rd_T53 l0 x4_1).f0)) ∧ w'.cell? ⟨(ad142.add ((x4_1).toNat * 4)).block, (ad142.add ((x4_1).toNat * 4)).off + 1, none⟩ = some (.int .i64 ((rd_T53 l0 x4_1).f1)) ∧ w'.cell? ⟨(ad142.add ((x4_1).toNat * 4)).block, (ad142.add ((x4_1).toNat * 4)).off + 2, none⟩ = some (.int .i64 ((rd_T53 l0 x4_1).f2)) ∧ w'.cell? ⟨(ad142.add ((x4_1).toNat * 4)).block, (ad142.add ((x4_1).toNat * 4)).off + 3, none⟩ = some (.slice A142_3 ((rd_T53 l0 x4_1).f3).length c142_3)) (ds := []) (fb 11 0) (by kernel_rfl) rfl rfl ⟨(bl_ HB hw142_0), (bl_ HB hw142_1), (bl_ HB hw142_2), (bl_ HB hw142_3)⟩ (fun hHeld => ?_); refine with_tabW code_deep.tab5 code_deep.bits5 (fun HT_ HW_ => ?_)
     generalize wr.drew = w81 at HB HR142_3 HR146 hx142_0 hx142_1 hx142_2 hx142_3 hHeld ⊢
     refine pu_ 0 (some 15) (fb 11 1) HT_ ?_
     refine pu_ 1 (some 16) (fb 11 3) HT_ ?_
     refine pu_ 2 (some 17) (fb 11 7) HT_ ?_
     refine pu_ 4 (some 19) (fb 11 23) HT_ ?_
     refine pu_ 5 (some 20) (fb 11 55) HT_ ?_
     refine pu_ 6 (some 21) (fb 11 119) HT_ ?_
     refine pu_ 7 (some 22) (fb 11 247) HT_ ?_
     refine ta4_ 3 (some 18) (fb 11 255) HT_ HW_ hHeld ?_
     refine one_ (i := 8) (N := some 5) (fb 11 511) rfl rfl (one_of HT_.out (by kernel_rfl)) (by decide) (fun K hK => ?_)
     refine box_step ?hg (N := 5) ?hd (cs := #[.int .i64 0, .int .i64 0, .int .i64 0, .slice none 0 0]) (t := 53) ?hr ?_; (case hd => rfl); (case hg => rfl); (case hr => first | (go_simp; done) | (go_simp; rfl))
     intro gb147 hg w83 hbox hb
     have n0_ := ak (bst_ hb)
     have n1_ := ak (hbox)
     have n2_ := ak ((by rw [hg]; exact bsz_ : w.heap.size ≤ gb147))
     have n3_ := ak ((by rw [hg]; exact bsz_ : w.heap.size ≤ gb147))
     clear HB
     have HB := n0_
     have BK147 := n1_
     have GW147 := n2_
     have GE147 := n3_
     clear n0_ n1_ n2_ n3_
     clear hb hbox hg
     refine hK.out _ _ ⟨(bl_ HB hw142_0), (bl_ HB hw142_1), (bl_ HB hw142_2), (bl_ HB hw142_3)⟩ (fun hHeld => ?_)
     clear hK K
     refine no_ (some 5) ?_
     refine one_ (i := 9) (N := none) (fb 11 1023) rfl rfl (one_of HT_.out (by kernel_rfl)) (by decide) (fun K hK => ?_)
     have hs84 : w83.cell? ⟨gb147, 0, none⟩ = some (.int .i64 0) := (blk_cell BK147.out 0).trans rfl
     have hfs84 := blk_frozen BK147.out 0
     have hs85 : w83.cell? ⟨gb147, 1, none⟩ = some (.int .i64 0) := (blk_cell BK147.out 1).trans rfl
     have hfs85 := blk_frozen BK147.out 1
     have hs86 : w83.cell? ⟨gb147, 2, none⟩ = some (.int .i64 0) := (blk_cell BK147.out 2).trans rfl
     have hfs86 := blk_frozen BK147.out 2
     have hs87 : w83.cell? ⟨gb147, 3, none⟩ = some (.slice none 0 0) := (blk_cell BK147.out 3).trans rfl
     have hfs87 := blk_frozen BK147.out 3
     refine skip_ (w1 := ?_) (by rfl) rfl ?_ ?_
     rotate_left
     · go_simp
       rfl
     refine hK.out _ _ ⟨((cell_far (p := ⟨gb147, _, none⟩) (fl_ hw142_0 GW147) _).trans (((cell_far (p := ⟨gb147, _, none⟩) (fl_ hw142_0 GW147) _).trans (((cell_far (p := ⟨gb147, _, none⟩) (fl_ hw142_0 GW147) _).trans (((cell_far (p := ⟨gb147, _, none⟩) (fl_ hw142_0 GW147) _).trans (hHeld.1)))))))), ((cell_far (p := ⟨gb147, _, none⟩) (fl_ hw142_1 GW147) _).trans (((cell_far (p := ⟨gb147, _, none⟩) (fl_ hw142_1 GW147) _).trans (((cell_far (p := ⟨gb147, _, none⟩) (fl_ hw142_1 GW147) _).trans (((cell_far (p := ⟨gb147, _, none⟩) (fl_ hw142_1 GW147) _).trans (hHeld.2.1)))))))), ((cell_far (p := ⟨gb147, _, none⟩) (fl_ hw142_2 GW147) _).trans (((cell_far (p := ⟨gb147, _, none⟩) (fl_ hw142_2 GW147) _).trans (((cell_far (p := ⟨gb147, _, none⟩) (fl_ hw142_2 GW147) _).trans (((cell_far (p := ⟨gb147, _, none⟩) (fl_ hw142_2 GW147) _).trans (hHeld.2.2.1)))))))), ((cell_far (p := ⟨gb147, _, none⟩) (fl_ hw142_3 GW147) _).trans (((cell_far (p := ⟨gb147, _, none⟩) (fl_ hw142_3 GW147) _).trans (((cell_far (p := ⟨gb147, _, none⟩) (fl_ hw142_3 GW147) _).trans (((cell_far (p := ⟨gb147, _, none⟩) (fl_ hw142_3 GW147) _).trans (hHeld.2.2.2))))))))⟩ (fun hHeld => ?_)
     clear hK K
     refine pu_ 10 (some 6) (fb 11 2047) HT_ ?_
     refine done_ (done_of HT_.out (by kernel_rfl)) ?_
     obtain ⟨hcz88_0, hcz88_1, hcz88_2, hcz88_3, hfz88_0, hfz88_1, hfz88_2, hfz88_3⟩ := bz4_ BK147
     try go_wp2
     go_roundg k1
     case measure => have := HK1.out; omega
     case rel => exact ⟨(x3_1), (ji4), (by first | rfl | (simp; done) | (simp [*]; done)), (by first | rfl | (simp; done) | (simp only [← hji4] <;> (first | rfl | simp)) | (simp [*]; done)), H', ⟨by have := HK1.out; omega⟩, ⟨bsw_⟩⟩
   rw [if_pos c7] at H
   have c7b0 : (((rd_T53 l0 x4_1).f0) == 7) = true := beq_iff_eq.mpr c7
   have c7b1 : (((rd_T53 l0 x4_1).f0) != 7) = false := bne_eq_false_iff_eq.mpr c7
   clear c7
   by_cases c8 : (wrap64 (((rd_T53 l0 x4_1).f1) + ((rd_T53 l0 x4_1).f2))) > (y143.length : Int)
   · rw [if_pos c8] at H
     have c8b0 : decide ((y143.length : Int) < (wrap64 (((rd_T53 l0 x4_1).f1) + ((rd_T53 l0 x4_1).f2)))) = true := decide_eq_true c8
     clear c8
     obtain rfl := Option.some.inj H
     try go_wp2
     have n0_ := ak (below_drew1 HB.out)
     clear HB
     have HB := n0_
     clear n0_
     have p142 : 0 ≤ (x4_1 : Int) := oda_
     have q142 : x4_1 < (l0.length : Int) := oda_
     obtain ⟨ad142, A142_3, c142_3, e142, hx142_0, hx142_1, hx142_2, hx142_3, hl142_3, hi142_3⟩ := at_T53 HR0.out x4_1 p142 q142
     have hw142_3 := hx142_3
     have hw142_2 := hx142_2
     have hw142_1 := hx142_1
     have hw142_0 := hx142_0
     cases e142
     replace hx142_0 := bl_ HB hx142_0
     replace hx142_1 := bl_ HB hx142_1
     replace hx142_2 := bl_ HB hx142_2
     replace hx142_3 := bl_ HB hx142_3
     have HR142_3 := ak hi142_3
     have HC142_3 := ak hl142_3
     clear hi142_3 hl142_3
     replace p142 := eq_true p142
     replace q142 := eq_true q142
     have q10 : ((ji4) : Int) ≤ ((l0.length : Int) : Int) := oda_
     obtain ⟨i010, hi010, _, hsz10, _⟩ := info_parts info53
     have hroom10 : l0.length ≤ c0 := HC0.out
     have hC10 : Kd.C k53 _ (some ad142) l0.length l0 := HR0.out
     have q010 : (0 : Int) ≤ ((ji4) : Int) := oda_
     have hcut10 := cut_from (P := Try.prog) 33 53 .i64 Try.underlying33 hi010 4 hsz10 (some ad142) l0.length c0 (ji4) q010 q10
     have hr10 := Kd.C_drop (m := ((ji4) : Int).toNat) (c := c0) hC10 (by omega) hroom10
     obtain ⟨A10, hA10⟩ : ∃ A1, A1 = (if c0 = ((ji4) : Int).toNat then (some ad142) else ((some ad142) : Option Addr).map (·.add (((ji4) : Int).toNat * 4))) := ⟨_, rfl⟩
     obtain ⟨c10, hc10⟩ : ∃ c1, c1 = c0 - ((ji4) : Int).toNat := ⟨_, rfl⟩
     have hy10 : y143.length = l0.length - ((ji4) : Int).toNat := (by rw [Ny143.out, List.length_drop] <;> omega)
     rw [show (l0).drop ((ji4) : Int).toNat = y143 from Ny143.out.symm] at hr10
     replace hr10 : Kd.C k53 _ A10 y143.length y143 := (by rw [hA10]; exact hr10)
     rw [← hy10, ← hA10, ← hc10] at hcut10
     have HR146 := ak hr10
     have HC146 := ak (show y143.length ≤ c10 from by rw [hy10, hc10]; exact Nat.sub_le_sub_right hroom10 _)
     clear hr10 hC10 hroom10 hi010 hsz10 hc10
     have KY10 := ak hy10
     have KA10 := ak hA10
     clear hy10 hA10
     replace q10 := eq_true q10
     refine start_ (n := 11) (S := fun w' => w'.cell? (ad142.add ((x4_1).toNat * 4)) = some (.int .i64 ((rd_T53 l0 x4_1).f0)) ∧ w'.cell? ⟨(ad142.add ((x4_1).toNat * 4)).block, (ad142.add ((x4_1).toNat * 4)).off + 1, none⟩ = some (.int .i64 ((rd_T53 l0 x4_1).f1)) ∧ w'.cell? ⟨(ad142.add ((x4_1).toNat * 4)).block, (ad142.add ((x4_1).toNat * 4)).off + 2, none⟩ = some (.int .i64 ((rd_T53 l0 x4_1).f2)) ∧ w'.cell? ⟨(ad142.add ((x4_1).toNat * 4)).block, (ad142.add ((x4_1).toNat * 4)).off + 3, none⟩ = some (.slice A142_3 ((rd_T53 l0 x4_1).f3).length c142_3)) (ds := []) (fb 11 0) (by kernel_rfl) rfl rfl ⟨(bl_ HB hw142_0), (bl_ HB hw142_1), (bl_ HB hw142_2), (bl_ HB hw142_3)⟩ (fun hHeld => ?_); refine with_tabW code_deep.tab5 code_deep.bits5 (fun HT_ HW_ => ?_)
     generalize wr.drew = w9 at HB HR142_3 HR146 hx142_0 hx142_1 hx142_2 hx142_3 hHeld ⊢
     refine pu_ 0 (some 15) (fb 11 1) HT_ ?_
     refine pu_ 1 (some 16) (fb 11 3) HT_ ?_
     refine pu_ 2 (some 17) (fb 11 7) HT_ ?_
     refine pu_ 4 (some 19) (fb 11 23) HT_ ?_
     refine pu_ 5 (some 20) (fb 11 55) HT_ ?_
     refine pu_ 6 (some 21) (fb 11 119) HT_ ?_
     refine pu_ 7 (some 22) (fb 11 247) HT_ ?_
     refine ta4_ 3 (some 18) (fb 11 255) HT_ HW_ hHeld ?_
     refine one_ (i := 8) (N := some 5) (fb 11 511) rfl rfl (one_of HT_.out (by kernel_rfl)) (by decide) (fun K hK => ?_)
     refine box_step ?hg (N := 5) ?hd (cs := #[.int .i64 0, .int .i64 0, .int .i64 0, .slice none 0 0]) (t := 53) ?hr ?_; (case hd => rfl); (case hg => rfl); (case hr => first | (go_simp; done) | (go_simp; rfl))
     intro gb147 hg w11 hbox hb
     have n0_ := ak (bst_ hb)
     have n1_ := ak (hbox)
     have n2_ := ak ((by rw [hg]; exact bsz_ : w.heap.size ≤ gb147))
     have n3_ := ak ((by rw [hg]; exact bsz_ : w.heap.size ≤ gb147))
     clear HB
     have HB := n0_
     have BK147 := n1_
     have GW147 := n2_
     have GE147 := n3_
     clear n0_ n1_ n2_ n3_
     clear hb hbox hg
     refine hK.out _ _ ⟨(bl_ HB hw142_0), (bl_ HB hw142_1), (bl_ HB hw142_2), (bl_ HB hw142_3)⟩ (fun hHeld => ?_)
     clear hK K
     refine no_ (some 5) ?_
     refine one_ (i := 9) (N := none) (fb 11 1023) rfl rfl (one_of HT_.out (by kernel_rfl)) (by decide) (fun K hK => ?_)
     have hs12 : w11.cell? ⟨gb147, 0, none⟩ = some (.int .i64 0) := (blk_cell BK147.out 0).trans rfl
     have hfs12 := blk_frozen BK147.out 0
     have hs13 : w11.cell? ⟨gb147, 1, none⟩ = some (.int .i64 0) := (blk_cell BK147.out 1).trans rfl
     have hfs13 := blk_frozen BK147.out 1
     have hs14 : w11.cell? ⟨gb147, 2, none⟩ = some (.int .i64 0) := (blk_cell BK147.out 2).trans rfl
     have hfs14 := blk_frozen BK147.out 2
     have hs15 : w11.cell? ⟨gb147, 3, none⟩ = some (.slice none 0 0) := (blk_cell BK147.out 3).trans rfl
     have hfs15 := blk_frozen BK147.out 3
     refine skip_ (w1 := ?_) (by rfl) rfl ?_ ?_
     rotate_left
     · go_simp
       rfl
     refine hK.out _ _ ⟨((cell_far (p := ⟨gb147, _, none⟩) (fl_ hw142_0 GW147) _).trans (((cell_far (p := ⟨gb147, _, none⟩) (fl_ hw142_0 GW147) _).trans (((cell_far (p := ⟨gb147, _, none⟩) (fl_ hw142_0 GW147) _).trans (((cell_far (p := ⟨gb147, _, none⟩) (fl_ hw142_0 GW147) _).trans (hHeld.1)))))))), ((cell_far (p := ⟨gb147, _, none⟩) (fl_ hw142_1 GW147) _).trans (((cell_far (p := ⟨gb147, _, none⟩) (fl_ hw142_1 GW147) _).trans (((cell_far (p := ⟨gb147, _, none⟩) (fl_ hw142_1 GW147) _).trans (((cell_far (p := ⟨gb147, _, none⟩) (fl_ hw142_1 GW147) _).trans (hHeld.2.1)))))))), ((cell_far (p := ⟨gb147, _, none⟩) (fl_ hw142_2 GW147) _).trans (((cell_far (p := ⟨gb147, _, none⟩) (fl_ hw142_2 GW147) _).trans (((cell_far (p := ⟨gb147, _, none⟩) (fl_ hw142_2 GW147) _).trans (((cell_far (p := ⟨gb147, _, none⟩) (fl_ hw142_2 GW147) _).trans (hHeld.2.2.1)))))))), ((cell_far (p := ⟨gb147, _, none⟩) (fl_ hw142_3 GW147) _).trans (((cell_far (p := ⟨gb147, _, none⟩) (fl_ hw142_3 GW147) _).trans (((cell_far (p := ⟨gb147, _, none⟩) (fl_ hw142_3 GW147) _).trans (((cell_far (p := ⟨gb147, _, none⟩) (fl_ hw142_3 GW147) _).trans (hHeld.2.2.2))))))))⟩ (fun hHeld => ?_)
     clear hK K
     refine pu_ 10 (some 6) (fb 11 2047) HT_ ?_
     refine done_ (done_of HT_.out (by kernel_rfl)) ?_
     obtain ⟨hcz16_0, hcz16_1, hcz16_2, hcz16_3, hfz16_0, hfz16_1, hfz16_2, hfz16_3⟩ := bz4_ BK147
     try go_wp2
     go_ret
     exact ⟨by first | rfl | (simp [errW_none, errW_some] <;> rfl) | (simp only [← hji4]; first | rfl | (simp [errW_none, errW_some] <;> rfl)) | (simp [*, errW_none, errW_some] <;> rfl), bsw_⟩
   rw [if_neg c8] at H
   have c8b0 : decide ((y143.length : Int) < (wrap64 (((rd_T53 l0 x4_1).f1) + ((rd_T53 l0 x4_1).f2)))) = false := decide_eq_false c8
   clear c8
   by_cases c17 : 0 ≤ ((rd_T53 l0 x4_1).f1)
   rotate_left
   · rw [if_neg c17] at H
     exact absurd H (by simp)
   rw [if_pos c17] at H
   have c17b0 := eq_true c17
   have c17b1 : decide (0 ≤ ((rd_T53 l0 x4_1).f1)) = true := decide_eq_true c17
   clear c17
   by_cases c18 : ((rd_T53 l0 x4_1).f1) ≤ (y143.length : Int)
   rotate_left
   · rw [if_neg c18] at H
     exact absurd H (by simp)
   rw [if_pos c18] at H
   have c18b0 := eq_true c18
   have c18b1 : decide (((rd_T53 l0 x4_1).f1) ≤ (y143.length : Int)) = true := decide_eq_true c18
   clear c18
   obtain ⟨y148, hy148⟩ : ∃ y_ : List (S53), y_ = (y143.take (((rd_T53 l0 x4_1).f1) : Int).toNat) := ⟨_, rfl⟩
   replace H : ((code_deep.f k1 y148).bind fun t152 => (if ((rd_T53 l0 x4_1).f1) ≤ (wrap64 (((rd_T53 l0 x4_1).f1) + ((rd_T53 l0 x4_1).f2))) then (if (wrap64 (((rd_T53 l0 x4_1).f1) + ((rd_T53 l0 x4_1).f2))) ≤ (y143.length : Int) then ((code_deep.f k1 ((y143.take ((wrap64 (((rd_T53 l0 x4_1).f1) + ((rd_T53 l0 x4_1).f2))) : Int).toNat).drop (((rd_T53 l0 x4_1).f1) : Int).toNat)).bind fun t157 => (if t152 < 0 then (some (-1)) else (if t157 < 0 then (some (-1)) else (code_deep.l0 k1 l0 (mx x3_1 (wrap64 (1 + (mx t152 t157)))) (wrap64 ((wrap64 (x4_1 + (wrap64 (((rd_T53 l0 x4_1).f1) + ((rd_T53 l0 x4_1).f2))))) + 1)))))) else (none)) else (none))) = some r := rh_ hy148 H
   have Ny148 := ak hy148
   clear hy148
   obtain ⟨t152, A19, H⟩ := bd_ H
   have c20b0 := eq_true (oda_ : 0 ≤ ((rd_T53 l0 x4_1).f1))
   by_cases c21 : ((rd_T53 l0 x4_1).f1) ≤ (wrap64 (((rd_T53 l0 x4_1).f1) + ((rd_T53 l0 x4_1).f2)))
   rotate_left
   · rw [if_neg c21] at H
     exact absurd H (by simp)
   rw [if_pos c21] at H
   have c21b0 := eq_true c21
   have c21b1 : decide (((rd_T53 l0 x4_1).f1) ≤ (wrap64 (((rd_T53 l0 x4_1).f1) + ((rd_T53 l0 x4_1).f2)))) = true := decide_eq_true c21
   by_cases c22 : (wrap64 (((rd_T53 l0 x4_1).f1) + ((rd_T53 l0 x4_1).f2))) ≤ (y143.length : Int)
   rotate_left
   · rw [if_neg c22] at H
     exact absurd H (by simp)
   rw [if_pos c22] at H
   have c22b0 := eq_true c22
   have c22b1 : decide ((wrap64 (((rd_T53 l0 x4_1).f1) + ((rd_T53 l0 x4_1).f2))) ≤ (y143.length : Int)) = true := decide_eq_true c22
   obtain ⟨y153, hy153⟩ : ∃ y_ : List (S53), y_ = ((y143.take ((wrap64 (((rd_T53 l0 x4_1).f1) + ((rd_T53 l0 x4_1).f2))) : Int).toNat).drop (((rd_T53 l0 x4_1).f1) : Int).toNat) := ⟨_, rfl⟩
   replace H : ((code_deep.f k1 y153).bind fun t157 => (if t152 < 0 then (some (-1)) else (if t157 < 0 then (some (-1)) else (code_deep.l0 k1 l0 (mx x3_1 (wrap64 (1 + (mx t152 t157)))) (wrap64 ((wrap64 (x4_1 + (wrap64 (((rd_T53 l0 x4_1).f1) + ((rd_T53 l0 x4_1).f2))))) + 1)))))) = some r := rh_ hy153 H
   have Ny153 := ak hy153
   clear hy153
   obtain ⟨t157, A23, H⟩ := bd_ H
   by_cases c24 : t152 < 0
   · rw [if_pos c24] at H
     have c24b0 : decide (t152 < 0) = true := decide_eq_true c24
     clear c24
     obtain rfl := Option.some.inj H
     try go_wp2
     have n0_ := ak (below_drew1 HB.out)
     clear HB
     have HB := n0_
     clear n0_
     have p142 : 0 ≤ (x4_1 : Int) := oda_
     have q142 : x4_1 < (l0.length : Int) := oda_
     obtain ⟨ad142, A142_3, c142_3, e142, hx142_0, hx142_1, hx142_2, hx142_3, hl142_3, hi142_3⟩ := at_T53 HR0.out x4_1 p142 q142
     have hw142_3 := hx142_3
     have hw142_2 := hx142_2
     have hw142_1 := hx142_1
     have hw142_0 := hx142_0
     cases e142
     replace hx142_0 := bl_ HB hx142_0
     replace hx142_1 := bl_ HB hx142_1
     replace hx142_2 := bl_ HB hx142_2
     replace hx142_3 := bl_ HB hx142_3
     have HR142_3 := ak hi142_3
     have HC142_3 := ak hl142_3
     clear hi142_3 hl142_3
     replace p142 := eq_true p142
     replace q142 := eq_true q142
     have q26 : ((ji4) : Int) ≤ ((l0.length : Int) : Int) := oda_
     obtain ⟨i026, hi026, _, hsz26, _⟩ := info_parts info53
     have hroom26 : l0.length ≤ c0 := HC0.out
     have hC26 : Kd.C k53 _ (some ad142) l0.length l0 := HR0.out
     have q026 : (0 : Int) ≤ ((ji4) : Int) := oda_
     have hcut26 := cut_from (P := Try.prog) 33 53 .i64 Try.underlying33 hi026 4 hsz26 (some ad142) l0.length c0 (ji4) q026 q26
     have hr26 := Kd.C_drop (m := ((ji4) : Int).toNat) (c := c0) hC26 (by omega) hroom26
     obtain ⟨A26, hA26⟩ : ∃ A1, A1 = (if c0 = ((ji4) : Int).toNat then (some ad142) else ((some ad142) : Option Addr).map (·.add (((ji4) : Int).toNat * 4))) := ⟨_, rfl⟩
     obtain ⟨c26, hc26⟩ : ∃ c1, c1 = c0 - ((ji4) : Int).toNat := ⟨_, rfl⟩
     have hy26 : y143.length = l0.length - ((ji4) : Int).toNat := (by rw [Ny143.out, List.length_drop] <;> omega)
     rw [show (l0).drop ((ji4) : Int).toNat = y143 from Ny143.out.symm] at hr26
     replace hr26 : Kd.C k53 _ A26 y143.length y143 := (by rw [hA26]; exact hr26)
     rw [← hy26, ← hA26, ← hc26] at hcut26
     have HR146 := ak hr26
     have HC146 := ak (show y143.length ≤ c26 from by rw [hy26, hc26]; exact Nat.sub_le_sub_right hroom26 _)
     clear hr26 hC26 hroom26 hi026 hsz26 hc26
     have KY26 := ak hy26
     have KA26 := ak hA26
     clear hy26 hA26
     replace q26 := eq_true q26
     refine start_ (n := 11) (S := fun w' => w'.cell? (ad142.add ((x4_1).toNat * 4)) = some (.int .i64 ((rd_T53 l0 x4_1).f0)) ∧ w'.cell? ⟨(ad142.add ((x4_1).toNat * 4)).block, (ad142.add ((x4_1).toNat * 4)).off + 1, none⟩ = some (.int .i64 ((rd_T53 l0 x4_1).f1)) ∧ w'.cell? ⟨(ad142.add ((x4_1).toNat * 4)).block, (ad142.add ((x4_1).toNat * 4)).off + 2, none⟩ = some (.int .i64 ((rd_T53 l0 x4_1).f2)) ∧ w'.cell? ⟨(ad142.add ((x4_1).toNat * 4)).block, (ad142.add ((x4_1).toNat * 4)).off + 3, none⟩ = some (.slice A142_3 ((rd_T53 l0 x4_1).f3).length c142_3)) (ds := []) (fb 11 0) (by kernel_rfl) rfl rfl ⟨(bl_ HB hw142_0), (bl_ HB hw142_1), (bl_ HB hw142_2), (bl_ HB hw142_3)⟩ (fun hHeld => ?_); refine with_tabW code_deep.tab5 code_deep.bits5 (fun HT_ HW_ => ?_)
     generalize wr.drew = w25 at HB HR142_3 HR146 hx142_0 hx142_1 hx142_2 hx142_3 hHeld ⊢
     refine pu_ 0 (some 15) (fb 11 1) HT_ ?_
     refine pu_ 1 (some 16) (fb 11 3) HT_ ?_
     refine pu_ 2 (some 17) (fb 11 7) HT_ ?_
     refine pu_ 4 (some 19) (fb 11 23) HT_ ?_
     refine pu_ 5 (some 20) (fb 11 55) HT_ ?_
     refine pu_ 6 (some 21) (fb 11 119) HT_ ?_
     refine pu_ 7 (some 22) (fb 11 247) HT_ ?_
     refine ta4_ 3 (some 18) (fb 11 255) HT_ HW_ hHeld ?_
     refine one_ (i := 8) (N := some 5) (fb 11 511) rfl rfl (one_of HT_.out (by kernel_rfl)) (by decide) (fun K hK => ?_)
     refine box_step ?hg (N := 5) ?hd (cs := #[.int .i64 0, .int .i64 0, .int .i64 0, .slice none 0 0]) (t := 53) ?hr ?_; (case hd => rfl); (case hg => rfl); (case hr => first | (go_simp; done) | (go_simp; rfl))
     intro gb147 hg w27 hbox hb
     have n0_ := ak (bst_ hb)
     have n1_ := ak (hbox)
     have n2_ := ak ((by rw [hg]; exact bsz_ : w.heap.size ≤ gb147))
     have n3_ := ak ((by rw [hg]; exact bsz_ : w.heap.size ≤ gb147))
     clear HB
     have HB := n0_
     have BK147 := n1_
     have GW147 := n2_
     have GE147 := n3_
     clear n0_ n1_ n2_ n3_
     clear hb hbox hg
     refine hK.out _ _ ⟨(bl_ HB hw142_0), (bl_ HB hw142_1), (bl_ HB hw142_2), (bl_ HB hw142_3)⟩ (fun hHeld => ?_)
     clear hK K
     refine no_ (some 5) ?_
     refine one_ (i := 9) (N := none) (fb 11 1023) rfl rfl (one_of HT_.out (by kernel_rfl)) (by decide) (fun K hK => ?_)
     have hs28 : w27.cell? ⟨gb147, 0, none⟩ = some (.int .i64 0) := (blk_cell BK147.out 0).trans rfl
     have hfs28 := blk_frozen BK147.out 0
     have hs29 : w27.cell? ⟨gb147, 1, none⟩ = some (.int .i64 0) := (blk_cell BK147.out 1).trans rfl
     have hfs29 := blk_frozen BK147.out 1
     have hs30 : w27.cell? ⟨gb147, 2, none⟩ = some (.int .i64 0) := (blk_cell BK147.out 2).trans rfl
     have hfs30 := blk_frozen BK147.out 2
     have hs31 : w27.cell? ⟨gb147, 3, none⟩ = some (.slice none 0 0) := (blk_cell BK147.out 3).trans rfl
     have hfs31 := blk_frozen BK147.out 3
     refine skip_ (w1 := ?_) (by rfl) rfl ?_ ?_
     rotate_left
     · go_simp
       rfl
     refine hK.out _ _ ⟨((cell_far (p := ⟨gb147, _, none⟩) (fl_ hw142_0 GW147) _).trans (((cell_far (p := ⟨gb147, _, none⟩) (fl_ hw142_0 GW147) _).trans (((cell_far (p := ⟨gb147, _, none⟩) (fl_ hw142_0 GW147) _).trans (((cell_far (p := ⟨gb147, _, none⟩) (fl_ hw142_0 GW147) _).trans (hHeld.1)))))))), ((cell_far (p := ⟨gb147, _, none⟩) (fl_ hw142_1 GW147) _).trans (((cell_far (p := ⟨gb147, _, none⟩) (fl_ hw142_1 GW147) _).trans (((cell_far (p := ⟨gb147, _, none⟩) (fl_ hw142_1 GW147) _).trans (((cell_far (p := ⟨gb147, _, none⟩) (fl_ hw142_1 GW147) _).trans (hHeld.2.1)))))))), ((cell_far (p := ⟨gb147, _, none⟩) (fl_ hw142_2 GW147) _).trans (((cell_far (p := ⟨gb147, _, none⟩) (fl_ hw142_2 GW147) _).trans (((cell_far (p := ⟨gb147, _, none⟩) (fl_ hw142_2 GW147) _).trans (((cell_far (p := ⟨gb147, _, none⟩) (fl_ hw142_2 GW147) _).trans (hHeld.2.2.1)))))))), ((cell_far (p := ⟨gb147, _, none⟩) (fl_ hw142_3 GW147) _).trans (((cell_far (p := ⟨gb147, _, none⟩) (fl_ hw142_3 GW147) _).trans (((cell_far (p := ⟨gb147, _, none⟩) (fl_ hw142_3 GW147) _).trans (((cell_far (p := ⟨gb147, _, none⟩) (fl_ hw142_3 GW147) _).trans (hHeld.2.2.2))))))))⟩ (fun hHeld => ?_)
     clear hK K
     refine pu_ 10 (some 6) (fb 11 2047) HT_ ?_
     refine done_ (done_of HT_.out (by kernel_rfl)) ?_
     obtain ⟨hcz32_0, hcz32_1, hcz32_2, hcz32_3, hfz32_0, hfz32_1, hfz32_2, hfz32_3⟩ := bz4_ BK147
     try go_wp2
     have n0_ : Aside0 (((((w27.setCell ⟨gb147, 0, none⟩ (.int .i64 ((rd_T53 l0 x4_1).f0))).setCell ⟨gb147, 1, none⟩ (.int .i64 ((rd_T53 l0 x4_1).f1))).setCell ⟨gb147, 2, none⟩ (.int .i64 ((rd_T53 l0 x4_1).f2))).setCell ⟨gb147, 3, none⟩ (.slice A142_3 ((rd_T53 l0 x4_1).f3).length c142_3)).heap[gb147]? = some (.cells #[.int .i64 ((rd_T53 l0 x4_1).f0), .int .i64 ((rd_T53 l0 x4_1).f1), .int .i64 ((rd_T53 l0 x4_1).f2), .slice A142_3 ((rd_T53 l0 x4_1).f3).length c142_3] 53 (0, 0))) := ⟨by (with_reducible repeat (first | refine blk_drewN ?_ _ | refine blk_drew ?_ | refine blk_alloc ?_ _)); refine blk_put (cs := #[.int .i64 ((rd_T53 l0 x4_1).f0), .int .i64 ((rd_T53 l0 x4_1).f1), .int .i64 ((rd_T53 l0 x4_1).f2), .slice none 0 0]) ?_ 3 _ rfl; (with_reducible repeat (first | refine blk_drewN ?_ _ | refine blk_drew ?_ | refine blk_alloc ?_ _)); refine blk_put (cs := #[.int .i64 ((rd_T53 l0 x4_1).f0), .int .i64 ((rd_T53 l0 x4_1).f1), .int .i64 0, .slice none 0 0]) ?_ 2 _ rfl; (with_reducible repeat (first | refine blk_drewN ?_ _ | refine blk_drew ?_ | refine blk_alloc ?_ _)); refine blk_put (cs := #[.int .i64 ((rd_T53 l0 x4_1).f0), .int .i64 0, .int .i64 0, .slice none 0 0]) ?_ 1 _ rfl; (with_reducible repeat (first | refine blk_drewN ?_ _ | refine blk_drew ?_ | refine blk_alloc ?_ _)); refine blk_put (cs := #[.int .i64 0, .int .i64 0, .int .i64 0, .slice none 0 0]) ?_ 0 _ rfl; (with_reducible repeat (first | refine blk_drewN ?_ _ | refine blk_drew ?_ | refine blk_alloc ?_ _)); exact BK147.out⟩
     have n1_ : Aside0 (Below w.heap.size w ((((w27.setCell ⟨gb147, 0, none⟩ (.int .i64 ((rd_T53 l0 x4_1).f0))).setCell ⟨gb147, 1, none⟩ (.int .i64 ((rd_T53 l0 x4_1).f1))).setCell ⟨gb147, 2, none⟩ (.int .i64 ((rd_T53 l0 x4_1).f2))).setCell ⟨gb147, 3, none⟩ (.slice A142_3 ((rd_T53 l0 x4_1).f3).length c142_3))) := ⟨bsw_⟩
     (try clear BK147)
     (try clear HB)
     generalize ((((w27.setCell ⟨gb147, 0, none⟩ (.int .i64 ((rd_T53 l0 x4_1).f0))).setCell ⟨gb147, 1, none⟩ (.int .i64 ((rd_T53 l0 x4_1).f1))).setCell ⟨gb147, 2, none⟩ (.int .i64 ((rd_T53 l0 x4_1).f2))).setCell ⟨gb147, 3, none⟩ (.slice A142_3 ((rd_T53 l0 x4_1).f3).length c142_3)) = w33 at n0_ n1_ ⊢
     have BK147 := n0_
     have HB := n1_
     clear n0_ n1_
     have n0_ := ak (blk_drew BK147.out)
     have n1_ := ak (below_drew1 HB.out)
     clear BK147
     clear HB
     have BK147 := n0_
     have HB := n1_
     clear n0_ n1_
     have q35 : (((rd_T53 l0 x4_1).f1) : Int) ≤ ((y143.length : Int) : Int) := oda_
     obtain ⟨i035, hi035, _, hsz35, _⟩ := info_parts info53
     have hroom35 : y143.length ≤ c26 := HC146.out
     have hC35 : Kd.C k53 _ A26 y143.length y143 := HR146.out
     have hcut35 := cut_to (P := Try.prog) 33 53 .i64 Try.underlying33 hi035 A26 y143.length c26 ((rd_T53 l0 x4_1).f1) (oda_) q35 hroom35
     have hr35 := Kd.C_take (m := (((rd_T53 l0 x4_1).f1) : Int).toNat) hC35 (by omega)
     have hy35 : y148.length = (((rd_T53 l0 x4_1).f1) : Int).toNat := (by rw [Ny148.out, List.length_take]; omega)
     rw [← Ny148.out] at hr35
     rw [← hy35] at hcut35
     have HR151 := ak hr35
     have HC151 := ak (show y148.length ≤ c26 from by omega)
     clear hr35 hC35 hroom35 hi035 hsz35
     have KY35 := ak hy35
     clear hy35
     replace q35 := eq_true q35
     have q36 : ((wrap64 (((rd_T53 l0 x4_1).f1) + ((rd_T53 l0 x4_1).f2))) : Int) ≤ ((y143.length : Int) : Int) := oda_
     obtain ⟨i036, hi036, _, hsz36, _⟩ := info_parts info53
     have hroom36 : y143.length ≤ c26 := HC146.out
     have hC36 : Kd.C k53 _ A26 y143.length y143 := HR146.out
     have ql36 : (((rd_T53 l0 x4_1).f1) : Int) ≤ ((wrap64 (((rd_T53 l0 x4_1).f1) + ((rd_T53 l0 x4_1).f2))) : Int) := oda_
     have q036 : (0 : Int) ≤ (((rd_T53 l0 x4_1).f1) : Int) := oda_
     have hcut36 := cut_mid (P := Try.prog) 33 53 .i64 .i64 Try.underlying33 hi036 4 hsz36 A26 y143.length c26 ((rd_T53 l0 x4_1).f1) (wrap64 (((rd_T53 l0 x4_1).f1) + ((rd_T53 l0 x4_1).f2))) q036 ql36 q36 hroom36
     have hr36 := Kd.C_mid (lo := (((rd_T53 l0 x4_1).f1) : Int).toNat) (hi := ((wrap64 (((rd_T53 l0 x4_1).f1) + ((rd_T53 l0 x4_1).f2))) : Int).toNat) (c := c26) hC36 (by omega) (by omega) hroom36
     obtain ⟨A36, hA36⟩ : ∃ A1, A1 = (if c26 = (((rd_T53 l0 x4_1).f1) : Int).toNat then A26 else (A26 : Option Addr).map (·.add ((((rd_T53 l0 x4_1).f1) : Int).toNat * 4))) := ⟨_, rfl⟩
     obtain ⟨c36, hc36⟩ : ∃ c1, c1 = c26 - (((rd_T53 l0 x4_1).f1) : Int).toNat := ⟨_, rfl⟩
     have hy36 : y153.length = ((wrap64 (((rd_T53 l0 x4_1).f1) + ((rd_T53 l0 x4_1).f2))) : Int).toNat - (((rd_T53 l0 x4_1).f1) : Int).toNat := (by rw [Ny153.out, List.length_drop, List.length_take] <;> omega)
     rw [show ((y143).take ((wrap64 (((rd_T53 l0 x4_1).f1) + ((rd_T53 l0 x4_1).f2))) : Int).toNat).drop (((rd_T53 l0 x4_1).f1) : Int).toNat = y153 from Ny153.out.symm] at hr36
     replace hr36 : Kd.C k53 _ A36 y153.length y153 := (by rw [hA36]; exact hr36)
     rw [← hy36, ← hA36, ← hc36] at hcut36
     have HR156 := ak hr36
     have HC156 := ak (show y153.length ≤ c36 from by rw [hy36, hc36]; exact Nat.sub_le_sub_right (Nat.le_trans (by omega) hroom36) _)
     clear hr36 hC36 hroom36 hi036 hsz36 hc36
     have KY36 := ak hy36
     have KA36 := ak hA36
     clear hy36 hA36
     replace q36 := eq_true q36
     refine start_ (n := 17) (S := fun w' => w'.cell? ⟨gb147, 0, none⟩ = some (.int .i64 ((rd_T53 l0 x4_1).f0)) ∧ w'.cell? ⟨gb147, 1, none⟩ = some (.int .i64 ((rd_T53 l0 x4_1).f1)) ∧ w'.cell? ⟨gb147, 2, none⟩ = some (.int .i64 ((rd_T53 l0 x4_1).f2)) ∧ w'.cell? ⟨gb147, 3, none⟩ = some (.slice A142_3 ((rd_T53 l0 x4_1).f3).length c142_3)) (ds := []) (fb 17 0) (by kernel_rfl) rfl rfl ⟨(blk_cell BK147.out 0).trans rfl, (blk_cell BK147.out 1).trans rfl, (blk_cell BK147.out 2).trans rfl, (blk_cell BK147.out 3).trans rfl⟩ (fun hHeld => ?_); refine with_tabW code_deep.tab11 code_deep.bits11 (fun HT_ HW_ => ?_)
     generalize w33.drew = w34 at BK147 HB HR151 HR156 hHeld ⊢
     refine pu_ 0 (some 44) (fb 17 1) HT_ ?_
     refine pu_ 1 (some 45) (fb 17 3) HT_ ?_
     refine pu_ 5 (some 49) (fb 17 35) HT_ ?_
     refine pu_ 6 (some 50) (fb 17 99) HT_ ?_
     refine pu_ 8 (some 52) (fb 17 355) HT_ ?_
     refine pu_ 10 (some 54) (fb 17 1379) HT_ ?_
     refine ta4_ 2 (some 46) (fb 17 1383) HT_ HW_ hHeld ?_
     refine pu_ 3 (some 47) (fb 17 1391) HT_ ?_
     refine ta4_ 7 (some 51) (fb 17 1519) HT_ HW_ hHeld ?_
     refine ta4_ 9 (some 53) (fb 17 2031) HT_ HW_ hHeld ?_
     refine ta4_ 11 (some 55) (fb 17 4079) HT_ HW_ hHeld ?_
     refine pu_ 12 (some 56) (fb 17 8175) HT_ ?_
     refine pu_ 13 (some 57) (fb 17 16367) HT_ ?_
     refine one_ (i := 4) (N := some 48) (fb 17 16383) rfl rfl (one_of HT_.out (by kernel_rfl)) (by decide) (fun K hK => ?_)
     refine goes_ Try.func37 (by kernel_rfl) rfl #[.slice A26 y148.length c26] (by rfl) rfl rfl (by (try simp only [List.map_toArray, List.map_cons, List.map_nil]); first | done | rfl | (simp only [List.length_drop, List.length_take]; rfl)) ?_
     with_reducible refine (ih k1 (by have := HK1.out; omega) _ _ y148 t152 _ ?side1 ?side2 A19.out).mono ?_
     (case side1 => exact cb_ HR151 HB)
     (case side2 => exact HC151.out)
     rintro e w37 ⟨rfl, hb⟩
     refine ⟨_, rfl, ?_⟩
     have n0_ := bb_ BK147 hb
     have n1_ := ak (below_step bsw_ hb)
     clear BK147
     clear HB
     have BK147 := n0_
     have HB := n1_
     clear n0_ n1_
     (try clear hb)
     (try clear hb2)
     (try clear hk)
     (try clear hi)
     refine hK.out _ _ (bc4_ BK147) (fun hHeld => ?_)
     clear hK K
     refine no_ (some 48) ?_
     refine one_ (i := 14) (N := some 58) (fb 17 32767) rfl rfl (one_of HT_.out (by kernel_rfl)) (by decide) (fun K hK => ?_)
     refine goes_ Try.func37 (by kernel_rfl) rfl #[.slice A36 y153.length c36] (by rfl) rfl rfl (by (try simp only [List.map_toArray, List.map_cons, List.map_nil]); first | done | rfl | (simp only [List.length_drop, List.length_take]; rfl)) ?_
     with_reducible refine (ih k1 (by have := HK1.out; omega) _ _ y153 t157 _ ?side1 ?side2 A23.out).mono ?_
     (case side1 => exact cb_ HR156 HB)
     (case side2 => exact HC156.out)
     rintro e w38 ⟨rfl, hb⟩
     refine ⟨_, rfl, ?_⟩
     have n0_ := bb_ BK147 hb
     have n1_ := ak (below_step bsw_ hb)
     clear BK147
     clear HB
     have BK147 := n0_
     have HB := n1_
     clear n0_ n1_
     (try clear hb)
     (try clear hb2)
     (try clear hk)
     (try clear hi)
     refine hK.out _ _ (bc4_ BK147) (fun hHeld => ?_)
     clear hK K
     refine no_ (some 58) ?_
     refine pu_ 15 (some 7) (fb 17 65535) HT_ ?_
     refine pu_ 16 (some 8) (fb 17 131071) HT_ ?_
     refine done_ (done_of HT_.out (by kernel_rfl)) ?_
     try go_wp2
     go_ret
     exact ⟨by first | rfl | (simp [errW_none, errW_some] <;> rfl) | (simp only [← hji4]; first | rfl | (simp [errW_none, errW_some] <;> rfl)) | (simp [*, errW_none, errW_some] <;> rfl), bsw_⟩
   rw [if_neg c24] at H
   have c24b0 : decide (t152 < 0) = false := decide_eq_false c24
   clear c24
   by_cases c39 : t157 < 0
   · rw [if_pos c39] at H
     have c39b0 : decide (t157 < 0) = true := decide_eq_true c39
     clear c39
     obtain rfl := Option.some.inj H
     try go_wp2
     have n0_ := ak (below_drew1 HB.out)
     clear HB
     have HB := n0_
     clear n0_
     have p142 : 0 ≤ (x4_1 : Int) := oda_
     have q142 : x4_1 < (l0.length : Int) := oda_
     obtain ⟨ad142, A142_3, c142_3, e142, hx142_0, hx142_1, hx142_2, hx142_3, hl142_3, hi142_3⟩ := at_T53 HR0.out x4_1 p142 q142
     have hw142_3 := hx142_3
     have hw142_2 := hx142_2
     have hw142_1 := hx142_1
     have hw142_0 := hx142_0
     cases e142
     replace hx142_0 := bl_ HB hx142_0
     replace hx142_1 := bl_ HB hx142_1
     replace hx142_2 := bl_ HB hx142_2
     replace hx142_3 := bl_ HB hx142_3
     have HR142_3 := ak hi142_3
     have HC142_3 := ak hl142_3
     clear hi142_3 hl142_3
     replace p142 := eq_true p142
     replace q142 := eq_true q142
     have q41 : ((ji4) : Int) ≤ ((l0.length : Int) : Int) := oda_
     obtain ⟨i041, hi041, _, hsz41, _⟩ := info_parts info53
     have hroom41 : l0.length ≤ c0 := HC0.out
     have hC41 : Kd.C k53 _ (some ad142) l0.length l0 := HR0.out
     have q041 : (0 : Int) ≤ ((ji4) : Int) := oda_
     have hcut41 := cut_from (P := Try.prog) 33 53 .i64 Try.underlying33 hi041 4 hsz41 (some ad142) l0.length c0 (ji4) q041 q41
     have hr41 := Kd.C_drop (m := ((ji4) : Int).toNat) (c := c0) hC41 (by omega) hroom41
     obtain ⟨A41, hA41⟩ : ∃ A1, A1 = (if c0 = ((ji4) : Int).toNat then (some ad142) else ((some ad142) : Option Addr).map (·.add (((ji4) : Int).toNat * 4))) := ⟨_, rfl⟩
     obtain ⟨c41, hc41⟩ : ∃ c1, c1 = c0 - ((ji4) : Int).toNat := ⟨_, rfl⟩
     have hy41 : y143.length = l0.length - ((ji4) : Int).toNat := (by rw [Ny143.out, List.length_drop] <;> omega)
     rw [show (l0).drop ((ji4) : Int).toNat = y143 from Ny143.out.symm] at hr41
     replace hr41 : Kd.C k53 _ A41 y143.length y143 := (by rw [hA41]; exact hr41)
     rw [← hy41, ← hA41, ← hc41] at hcut41
     have HR146 := ak hr41
     have HC146 := ak (show y143.length ≤ c41 from by rw [hy41, hc41]; exact Nat.sub_le_sub_right hroom41 _)
     clear hr41 hC41 hroom41 hi041 hsz41 hc41
     have KY41 := ak hy41
     have KA41 := ak hA41
     clear hy41 hA41
     replace q41 := eq_true q41
     refine start_ (n := 11) (S := fun w' => w'.cell? (ad142.add ((x4_1).toNat * 4)) = some (.int .i64 ((rd_T53 l0 x4_1).f0)) ∧ w'.cell? ⟨(ad142.add ((x4_1).toNat * 4)).block, (ad142.add ((x4_1).toNat * 4)).off + 1, none⟩ = some (.int .i64 ((rd_T53 l0 x4_1).f1)) ∧ w'.cell? ⟨(ad142.add ((x4_1).toNat * 4)).block, (ad142.add ((x4_1).toNat * 4)).off + 2, none⟩ = some (.int .i64 ((rd_T53 l0 x4_1).f2)) ∧ w'.cell? ⟨(ad142.add ((x4_1).toNat * 4)).block, (ad142.add ((x4_1).toNat * 4)).off + 3, none⟩ = some (.slice A142_3 ((rd_T53 l0 x4_1).f3).length c142_3)) (ds := []) (fb 11 0) (by kernel_rfl) rfl rfl ⟨(bl_ HB hw142_0), (bl_ HB hw142_1), (bl_ HB hw142_2), (bl_ HB hw142_3)⟩ (fun hHeld => ?_); refine with_tabW code_deep.tab5 code_deep.bits5 (fun HT_ HW_ => ?_)
     generalize wr.drew = w40 at HB HR142_3 HR146 hx142_0 hx142_1 hx142_2 hx142_3 hHeld ⊢
     refine pu_ 0 (some 15) (fb 11 1) HT_ ?_
     refine pu_ 1 (some 16) (fb 11 3) HT_ ?_
     refine pu_ 2 (some 17) (fb 11 7) HT_ ?_
     refine pu_ 4 (some 19) (fb 11 23) HT_ ?_
     refine pu_ 5 (some 20) (fb 11 55) HT_ ?_
     refine pu_ 6 (some 21) (fb 11 119) HT_ ?_
     refine pu_ 7 (some 22) (fb 11 247) HT_ ?_
     refine ta4_ 3 (some 18) (fb 11 255) HT_ HW_ hHeld ?_
     refine one_ (i := 8) (N := some 5) (fb 11 511) rfl rfl (one_of HT_.out (by kernel_rfl)) (by decide) (fun K hK => ?_)
     refine box_step ?hg (N := 5) ?hd (cs := #[.int .i64 0, .int .i64 0, .int .i64 0, .slice none 0 0]) (t := 53) ?hr ?_; (case hd => rfl); (case hg => rfl); (case hr => first | (go_simp; done) | (go_simp; rfl))
     intro gb147 hg w42 hbox hb
     have n0_ := ak (bst_ hb)
     have n1_ := ak (hbox)
     have n2_ := ak ((by rw [hg]; exact bsz_ : w.heap.size ≤ gb147))
     have n3_ := ak ((by rw [hg]; exact bsz_ : w.heap.size ≤ gb147))
     clear HB
     have HB := n0_
     have BK147 := n1_
     have GW147 := n2_
     have GE147 := n3_
     clear n0_ n1_ n2_ n3_
     clear hb hbox hg
     refine hK.out _ _ ⟨(bl_ HB hw142_0), (bl_ HB hw142_1), (bl_ HB hw142_2), (bl_ HB hw142_3)⟩ (fun hHeld => ?_)
     clear hK K
     refine no_ (some 5) ?_
     refine one_ (i := 9) (N := none) (fb 11 1023) rfl rfl (one_of HT_.out (by kernel_rfl)) (by decide) (fun K hK => ?_)
     have hs43 : w42.cell? ⟨gb147, 0, none⟩ = some (.int .i64 0) := (blk_cell BK147.out 0).trans rfl
     have hfs43 := blk_frozen BK147.out 0
     have hs44 : w42.cell? ⟨gb147, 1, none⟩ = some (.int .i64 0) := (blk_cell BK147.out 1).trans rfl
     have hfs44 := blk_frozen BK147.out 1
     have hs45 : w42.cell? ⟨gb147, 2, none⟩ = some (.int .i64 0) := (blk_cell BK147.out 2).trans rfl
     have hfs45 := blk_frozen BK147.out 2
     have hs46 : w42.cell? ⟨gb147, 3, none⟩ = some (.slice none 0 0) := (blk_cell BK147.out 3).trans rfl
     have hfs46 := blk_frozen BK147.out 3
     refine skip_ (w1 := ?_) (by rfl) rfl ?_ ?_
     rotate_left
     · go_simp
       rfl
     refine hK.out _ _ ⟨((cell_far (p := ⟨gb147, _, none⟩) (fl_ hw142_0 GW147) _).trans (((cell_far (p := ⟨gb147, _, none⟩) (fl_ hw142_0 GW147) _).trans (((cell_far (p := ⟨gb147, _, none⟩) (fl_ hw142_0 GW147) _).trans (((cell_far (p := ⟨gb147, _, none⟩) (fl_ hw142_0 GW147) _).trans (hHeld.1)))))))), ((cell_far (p := ⟨gb147, _, none⟩) (fl_ hw142_1 GW147) _).trans (((cell_far (p := ⟨gb147, _, none⟩) (fl_ hw142_1 GW147) _).trans (((cell_far (p := ⟨gb147, _, none⟩) (fl_ hw142_1 GW147) _).trans (((cell_far (p := ⟨gb147, _, none⟩) (fl_ hw142_1 GW147) _).trans (hHeld.2.1)))))))), ((cell_far (p := ⟨gb147, _, none⟩) (fl_ hw142_2 GW147) _).trans (((cell_far (p := ⟨gb147, _, none⟩) (fl_ hw142_2 GW147) _).trans (((cell_far (p := ⟨gb147, _, none⟩) (fl_ hw142_2 GW147) _).trans (((cell_far (p := ⟨gb147, _, none⟩) (fl_ hw142_2 GW147) _).trans (hHeld.2.2.1)))))))), ((cell_far (p := ⟨gb147, _, none⟩) (fl_ hw142_3 GW147) _).trans (((cell_far (p := ⟨gb147, _, none⟩) (fl_ hw142_3 GW147) _).trans (((cell_far (p := ⟨gb147, _, none⟩) (fl_ hw142_3 GW147) _).trans (((cell_far (p := ⟨gb147, _, none⟩) (fl_ hw142_3 GW147) _).trans (hHeld.2.2.2))))))))⟩ (fun hHeld => ?_)
     clear hK K
     refine pu_ 10 (some 6) (fb 11 2047) HT_ ?_
     refine done_ (done_of HT_.out (by kernel_rfl)) ?_
     obtain ⟨hcz47_0, hcz47_1, hcz47_2, hcz47_3, hfz47_0, hfz47_1, hfz47_2, hfz47_3⟩ := bz4_ BK147
     try go_wp2
     have n0_ : Aside0 (((((w42.setCell ⟨gb147, 0, none⟩ (.int .i64 ((rd_T53 l0 x4_1).f0))).setCell ⟨gb147, 1, none⟩ (.int .i64 ((rd_T53 l0 x4_1).f1))).setCell ⟨gb147, 2, none⟩ (.int .i64 ((rd_T53 l0 x4_1).f2))).setCell ⟨gb147, 3, none⟩ (.slice A142_3 ((rd_T53 l0 x4_1).f3).length c142_3)).heap[gb147]? = some (.cells #[.int .i64 ((rd_T53 l0 x4_1).f0), .int .i64 ((rd_T53 l0 x4_1).f1), .int .i64 ((rd_T53 l0 x4_1).f2), .slice A142_3 ((rd_T53 l0 x4_1).f3).length c142_3] 53 (0, 0))) := ⟨by (with_reducible repeat (first | refine blk_drewN ?_ _ | refine blk_drew ?_ | refine blk_alloc ?_ _)); refine blk_put (cs := #[.int .i64 ((rd_T53 l0 x4_1).f0), .int .i64 ((rd_T53 l0 x4_1).f1), .int .i64 ((rd_T53 l0 x4_1).f2), .slice none 0 0]) ?_ 3 _ rfl; (with_reducible repeat (first | refine blk_drewN ?_ _ | refine blk_drew ?_ | refine blk_alloc ?_ _)); refine blk_put (cs := #[.int .i64 ((rd_T53 l0 x4_1).f0), .int .i64 ((rd_T53 l0 x4_1).f1), .int .i64 0, .slice none 0 0]) ?_ 2 _ rfl; (with_reducible repeat (first | refine blk_drewN ?_ _ | refine blk_drew ?_ | refine blk_alloc ?_ _)); refine blk_put (cs := #[.int .i64 ((rd_T53 l0 x4_1).f0), .int .i64 0, .int .i64 0, .slice none 0 0]) ?_ 1 _ rfl; (with_reducible repeat (first | refine blk_drewN ?_ _ | refine blk_drew ?_ | refine blk_alloc ?_ _)); refine blk_put (cs := #[.int .i64 0, .int .i64 0, .int .i64 0, .slice none 0 0]) ?_ 0 _ rfl; (with_reducible repeat (first | refine blk_drewN ?_ _ | refine blk_drew ?_ | refine blk_alloc ?_ _)); exact BK147.out⟩
     have n1_ : Aside0 (Below w.heap.size w ((((w42.setCell ⟨gb147, 0, none⟩ (.int .i64 ((rd_T53 l0 x4_1).f0))).setCell ⟨gb147, 1, none⟩ (.int .i64 ((rd_T53 l0 x4_1).f1))).setCell ⟨gb147, 2, none⟩ (.int .i64 ((rd_T53 l0 x4_1).f2))).setCell ⟨gb147, 3, none⟩ (.slice A142_3 ((rd_T53 l0 x4_1).f3).length c142_3))) := ⟨bsw_⟩
     (try clear BK147)
     (try clear HB)
     generalize ((((w42.setCell ⟨gb147, 0, none⟩ (.int .i64 ((rd_T53 l0 x4_1).f0))).setCell ⟨gb147, 1, none⟩ (.int .i64 ((rd_T53 l0 x4_1).f1))).setCell ⟨gb147, 2, none⟩ (.int .i64 ((rd_T53 l0 x4_1).f2))).setCell ⟨gb147, 3, none⟩ (.slice A142_3 ((rd_T53 l0 x4_1).f3).length c142_3)) = w48 at n0_ n1_ ⊢
     have BK147 := n0_
     have HB := n1_
     clear n0_ n1_
     have n0_ := ak (blk_drew BK147.out)
     have n1_ := ak (below_drew1 HB.out)
     clear BK147
     clear HB
     have BK147 := n0_
     have HB := n1_
     clear n0_ n1_
     have q50 : (((rd_T53 l0 x4_1).f1) : Int) ≤ ((y143.length : Int) : Int) := oda_
     obtain ⟨i050, hi050, _, hsz50, _⟩ := info_parts info53
     have hroom50 : y143.length ≤ c41 := HC146.out
     have hC50 : Kd.C k53 _ A41 y143.length y143 := HR146.out
     have hcut50 := cut_to (P := Try.prog) 33 53 .i64 Try.underlying33 hi050 A41 y143.length c41 ((rd_T53 l0 x4_1).f1) (oda_) q50 hroom50
     have hr50 := Kd.C_take (m := (((rd_T53 l0 x4_1).f1) : Int).toNat) hC50 (by omega)
     have hy50 : y148.length = (((rd_T53 l0 x4_1).f1) : Int).toNat := (by rw [Ny148.out, List.length_take]; omega)
     rw [← Ny148.out] at hr50
     rw [← hy50] at hcut50
     have HR151 := ak hr50
     have HC151 := ak (show y148.length ≤ c41 from by omega)
     clear hr50 hC50 hroom50 hi050 hsz50
     have KY50 := ak hy50
     clear hy50
     replace q50 := eq_true q50
     have q51 : ((wrap64 (((rd_T53 l0 x4_1).f1) + ((rd_T53 l0 x4_1).f2))) : Int) ≤ ((y143.length : Int) : Int) := oda_
     obtain ⟨i051, hi051, _, hsz51, _⟩ := info_parts info53
     have hroom51 : y143.length ≤ c41 := HC146.out
     have hC51 : Kd.C k53 _ A41 y143.length y143 := HR146.out
     have ql51 : (((rd_T53 l0 x4_1).f1) : Int) ≤ ((wrap64 (((rd_T53 l0 x4_1).f1) + ((rd_T53 l0 x4_1).f2))) : Int) := oda_
     have q051 : (0 : Int) ≤ (((rd_T53 l0 x4_1).f1) : Int) := oda_
     have hcut51 := cut_mid (P := Try.prog) 33 53 .i64 .i64 Try.underlying33 hi051 4 hsz51 A41 y143.length c41 ((rd_T53 l0 x4_1).f1) (wrap64 (((rd_T53 l0 x4_1).f1) + ((rd_T53 l0 x4_1).f2))) q051 ql51 q51 hroom51
     have hr51 := Kd.C_mid (lo := (((rd_T53 l0 x4_1).f1) : Int).toNat) (hi := ((wrap64 (((rd_T53 l0 x4_1).f1) + ((rd_T53 l0 x4_1).f2))) : Int).toNat) (c := c41) hC51 (by omega) (by omega) hroom51
     obtain ⟨A51, hA51⟩ : ∃ A1, A1 = (if c41 = (((rd_T53 l0 x4_1).f1) : Int).toNat then A41 else (A41 : Option Addr).map (·.add ((((rd_T53 l0 x4_1).f1) : Int).toNat * 4))) := ⟨_, rfl⟩
     obtain ⟨c51, hc51⟩ : ∃ c1, c1 = c41 - (((rd_T53 l0 x4_1).f1) : Int).toNat := ⟨_, rfl⟩
     have hy51 : y153.length = ((wrap64 (((rd_T53 l0 x4_1).f1) + ((rd_T53 l0 x4_1).f2))) : Int).toNat - (((rd_T53 l0 x4_1).f1) : Int).toNat := (by rw [Ny153.out, List.length_drop, List.length_take] <;> omega)
     rw [show ((y143).take ((wrap64 (((rd_T53 l0 x4_1).f1) + ((rd_T53 l0 x4_1).f2))) : Int).toNat).drop (((rd_T53 l0 x4_1).f1) : Int).toNat = y153 from Ny153.out.symm] at hr51
     replace hr51 : Kd.C k53 _ A51 y153.length y153 := (by rw [hA51]; exact hr51)
     rw [← hy51, ← hA51, ← hc51] at hcut51
     have HR156 := ak hr51
     have HC156 := ak (show y153.length ≤ c51 from by rw [hy51, hc51]; exact Nat.sub_le_sub_right (Nat.le_trans (by omega) hroom51) _)
     clear hr51 hC51 hroom51 hi051 hsz51 hc51
     have KY51 := ak hy51
     have KA51 := ak hA51
     clear hy51 hA51
     replace q51 := eq_true q51
     refine start_ (n := 17) (S := fun w' => w'.cell? ⟨gb147, 0, none⟩ = some (.int .i64 ((rd_T53 l0 x4_1).f0)) ∧ w'.cell? ⟨gb147, 1, none⟩ = some (.int .i64 ((rd_T53 l0 x4_1).f1)) ∧ w'.cell? ⟨gb147, 2, none⟩ = some (.int .i64 ((rd_T53 l0 x4_1).f2)) ∧ w'.cell? ⟨gb147, 3, none⟩ = some (.slice A142_3 ((rd_T53 l0 x4_1).f3).length c142_3)) (ds := []) (fb 17 0) (by kernel_rfl) rfl rfl ⟨(blk_cell BK147.out 0).trans rfl, (blk_cell BK147.out 1).trans rfl, (blk_cell BK147.out 2).trans rfl, (blk_cell BK147.out 3).trans rfl⟩ (fun hHeld => ?_); refine with_tabW code_deep.tab11 code_deep.bits11 (fun HT_ HW_ => ?_)
     generalize w48.drew = w49 at BK147 HB HR151 HR156 hHeld ⊢
     refine pu_ 0 (some 44) (fb 17 1) HT_ ?_
     refine pu_ 1 (some 45) (fb 17 3) HT_ ?_
     refine pu_ 5 (some 49) (fb 17 35) HT_ ?_
     refine pu_ 6 (some 50) (fb 17 99) HT_ ?_
     refine pu_ 8 (some 52) (fb 17 355) HT_ ?_
     refine pu_ 10 (some 54) (fb 17 1379) HT_ ?_
     refine ta4_ 2 (some 46) (fb 17 1383) HT_ HW_ hHeld ?_
     refine pu_ 3 (some 47) (fb 17 1391) HT_ ?_
     refine ta4_ 7 (some 51) (fb 17 1519) HT_ HW_ hHeld ?_
     refine ta4_ 9 (some 53) (fb 17 2031) HT_ HW_ hHeld ?_
     refine ta4_ 11 (some 55) (fb 17 4079) HT_ HW_ hHeld ?_
     refine pu_ 12 (some 56) (fb 17 8175) HT_ ?_
     refine pu_ 13 (some 57) (fb 17 16367) HT_ ?_
     refine one_ (i := 4) (N := some 48) (fb 17 16383) rfl rfl (one_of HT_.out (by kernel_rfl)) (by decide) (fun K hK => ?_)
     refine goes_ Try.func37 (by kernel_rfl) rfl #[.slice A41 y148.length c41] (by rfl) rfl rfl (by (try simp only [List.map_toArray, List.map_cons, List.map_nil]); first | done | rfl | (simp only [List.length_drop, List.length_take]; rfl)) ?_
     with_reducible refine (ih k1 (by have := HK1.out; omega) _ _ y148 t152 _ ?side1 ?side2 A19.out).mono ?_
     (case side1 => exact cb_ HR151 HB)
     (case side2 => exact HC151.out)
     rintro e w52 ⟨rfl, hb⟩
     refine ⟨_, rfl, ?_⟩
     have n0_ := bb_ BK147 hb
     have n1_ := ak (below_step bsw_ hb)
     clear BK147
     clear HB
     have BK147 := n0_
     have HB := n1_
     clear n0_ n1_
     (try clear hb)
     (try clear hb2)
     (try clear hk)
     (try clear hi)
     refine hK.out _ _ (bc4_ BK147) (fun hHeld => ?_)
     clear hK K
     refine no_ (some 48) ?_
     refine one_ (i := 14) (N := some 58) (fb 17 32767) rfl rfl (one_of HT_.out (by kernel_rfl)) (by decide) (fun K hK => ?_)
     refine goes_ Try.func37 (by kernel_rfl) rfl #[.slice A51 y153.length c51] (by rfl) rfl rfl (by (try simp only [List.map_toArray, List.map_cons, List.map_nil]); first | done | rfl | (simp only [List.length_drop, List.length_take]; rfl)) ?_
     with_reducible refine (ih k1 (by have := HK1.out; omega) _ _ y153 t157 _ ?side1 ?side2 A23.out).mono ?_
     (case side1 => exact cb_ HR156 HB)
     (case side2 => exact HC156.out)
     rintro e w53 ⟨rfl, hb⟩
     refine ⟨_, rfl, ?_⟩
     have n0_ := bb_ BK147 hb
     have n1_ := ak (below_step bsw_ hb)
     clear BK147
     clear HB
     have BK147 := n0_
     have HB := n1_
     clear n0_ n1_
     (try clear hb)
     (try clear hb2)
     (try clear hk)
     (try clear hi)
     refine hK.out _ _ (bc4_ BK147) (fun hHeld => ?_)
     clear hK K
     refine no_ (some 58) ?_
     refine pu_ 15 (some 7) (fb 17 65535) HT_ ?_
     refine pu_ 16 (some 8) (fb 17 131071) HT_ ?_
     refine done_ (done_of HT_.out (by kernel_rfl)) ?_
     try go_wp2
     go_ret
     exact ⟨by first | rfl | (simp [errW_none, errW_some] <;> rfl) | (simp only [← hji4]; first | rfl | (simp [errW_none, errW_some] <;> rfl)) | (simp [*, errW_none, errW_some] <;> rfl), bsw_⟩
   rw [if_neg c39] at H
   have c39b0 : decide (t157 < 0) = false := decide_eq_false c39
   clear c39
   obtain ⟨ji54, hji54⟩ : ∃ j_ : Int, (mx t152 t157) = j_ := ⟨_, rfl⟩
   replace H : (code_deep.l0 k1 l0 (mx x3_1 (wrap64 (1 + (ji54)))) (wrap64 ((wrap64 (x4_1 + (wrap64 (((rd_T53 l0 x4_1).f1) + ((rd_T53 l0 x4_1).f2))))) + 1))) = some r := by first | (rw [hji54] at H; exact H) | (simp only [hji54] at H ⊢; exact H)
   (try rw [hji54] at A19)
   (try rw [hji54] at A23)
   have hji54_ : (if t152 < t157 then t157 else t152) = ji54 := hji54
   obtain ⟨ji55, hji55⟩ : ∃ j_ : Int, (mx x3_1 (wrap64 (1 + (ji54)))) = j_ := ⟨_, rfl⟩
   replace H : (code_deep.l0 k1 l0 ji55 (wrap64 ((wrap64 (x4_1 + (wrap64 (((rd_T53 l0 x4_1).f1) + ((rd_T53 l0 x4_1).f2))))) + 1))) = some r := by first | (rw [hji55] at H; exact H) | (simp only [hji55] at H ⊢; exact H)
   (try rw [hji55] at A19)
   (try rw [hji55] at A23)
   have hji55_ : (if x3_1 < (wrap64 (1 + (ji54))) then (wrap64 (1 + (ji54))) else x3_1) = ji55 := hji55
   have H' := ak H
   clear H
   try go_wp2
   have n0_ := ak (below_drew1 HB.out)
   clear HB
   have HB := n0_
   clear n0_
   have p142 : 0 ≤ (x4_1 : Int) := oda_
   have q142 : x4_1 < (l0.length : Int) := oda_
   obtain ⟨ad142, A142_3, c142_3, e142, hx142_0, hx142_1, hx142_2, hx142_3, hl142_3, hi142_3⟩ := at_T53 HR0.out x4_1 p142 q142
   have hw142_3 := hx142_3
   have hw142_2 := hx142_2
   have hw142_1 := hx142_1
   have hw142_0 := hx142_0
   cases e142
   replace hx142_0 := bl_ HB hx142_0
   replace hx142_1 := bl_ HB hx142_1
   replace hx142_2 := bl_ HB hx142_2
   replace hx142_3 := bl_ HB hx142_3
   have HR142_3 := ak hi142_3
   have HC142_3 := ak hl142_3
   clear hi142_3 hl142_3
   replace p142 := eq_true p142
   replace q142 := eq_true q142
   have q57 : ((ji4) : Int) ≤ ((l0.length : Int) : Int) := oda_
   obtain ⟨i057, hi057, _, hsz57, _⟩ := info_parts info53
   have hroom57 : l0.length ≤ c0 := HC0.out
   have hC57 : Kd.C k53 _ (some ad142) l0.length l0 := HR0.out
   have q057 : (0 : Int) ≤ ((ji4) : Int) := oda_
   have hcut57 := cut_from (P := Try.prog) 33 53 .i64 Try.underlying33 hi057 4 hsz57 (some ad142) l0.length c0 (ji4) q057 q57
   have hr57 := Kd.C_drop (m := ((ji4) : Int).toNat) (c := c0) hC57 (by omega) hroom57
   obtain ⟨A57, hA57⟩ : ∃ A1, A1 = (if c0 = ((ji4) : Int).toNat then (some ad142) else ((some ad142) : Option Addr).map (·.add (((ji4) : Int).toNat * 4))) := ⟨_, rfl⟩
   obtain ⟨c57, hc57⟩ : ∃ c1, c1 = c0 - ((ji4) : Int).toNat := ⟨_, rfl⟩
   have hy57 : y143.length = l0.length - ((ji4) : Int).toNat := (by rw [Ny143.out, List.length_drop] <;> omega)
   rw [show (l0).drop ((ji4) : Int).toNat = y143 from Ny143.out.symm] at hr57
   replace hr57 : Kd.C k53 _ A57 y143.length y143 := (by rw [hA57]; exact hr57)
   rw [← hy57, ← hA57, ← hc57] at hcut57
   have HR146 := ak hr57
   have HC146 := ak (show y143.length ≤ c57 from by rw [hy57, hc57]; exact Nat.sub_le_sub_right hroom57 _)
   clear hr57 hC57 hroom57 hi057 hsz57 hc57
   have KY57 := ak hy57
   have KA57 := ak hA57
   clear hy57 hA57
   replace q57 := eq_true q57
   refine start_ (n := 11) (S := fun w' => w'.cell? (ad142.add ((x4_1).toNat * 4)) = some (.int .i64 ((rd_T53 l0 x4_1).f0)) ∧ w'.cell? ⟨(ad142.add ((x4_1).toNat * 4)).block, (ad142.add ((x4_1).toNat * 4)).off + 1, none⟩ = some (.int .i64 ((rd_T53 l0 x4_1).f1)) ∧ w'.cell? ⟨(ad142.add ((x4_1).toNat * 4)).block, (ad142.add ((x4_1).toNat * 4)).off + 2, none⟩ = some (.int .i64 ((rd_T53 l0 x4_1).f2)) ∧ w'.cell? ⟨(ad142.add ((x4_1).toNat * 4)).block, (ad142.add ((x4_1).toNat * 4)).off + 3, none⟩ = some (.slice A142_3 ((rd_T53 l0 x4_1).f3).length c142_3)) (ds := []) (fb 11 0) (by kernel_rfl) rfl rfl ⟨(bl_ HB hw142_0), (bl_ HB hw142_1), (bl_ HB hw142_2), (bl_ HB hw142_3)⟩ (fun hHeld => ?_); refine with_tabW code_deep.tab5 code_deep.bits5 (fun HT_ HW_ => ?_)
   generalize wr.drew = w56 at HB HR142_3 HR146 hx142_0 hx142_1 hx142_2 hx142_3 hHeld ⊢
   refine pu_ 0 (some 15) (fb 11 1) HT_ ?_
   refine pu_ 1 (some 16) (fb 11 3) HT_ ?_
   refine pu_ 2 (some 17) (fb 11 7) HT_ ?_
   refine pu_ 4 (some 19) (fb 11 23) HT_ ?_
   refine pu_ 5 (some 20) (fb 11 55) HT_ ?_
   refine pu_ 6 (some 21) (fb 11 119) HT_ ?_
   refine pu_ 7 (some 22) (fb 11 247) HT_ ?_
   refine ta4_ 3 (some 18) (fb 11 255) HT_ HW_ hHeld ?_
   refine one_ (i := 8) (N := some 5) (fb 11 511) rfl rfl (one_of HT_.out (by kernel_rfl)) (by decide) (fun K hK => ?_)
   refine box_step ?hg (N := 5) ?hd (cs := #[.int .i64 0, .int .i64 0, .int .i64 0, .slice none 0 0]) (t := 53) ?hr ?_; (case hd => rfl); (case hg => rfl); (case hr => first | (go_simp; done) | (go_simp; rfl))
   intro gb147 hg w58 hbox hb
   have n0_ := ak (bst_ hb)
   have n1_ := ak (hbox)
   have n2_ := ak ((by rw [hg]; exact bsz_ : w.heap.size ≤ gb147))
   have n3_ := ak ((by rw [hg]; exact bsz_ : w.heap.size ≤ gb147))
   clear HB
   have HB := n0_
   have BK147 := n1_
   have GW147 := n2_
   have GE147 := n3_
   clear n0_ n1_ n2_ n3_
   clear hb hbox hg
   refine hK.out _ _ ⟨(bl_ HB hw142_0), (bl_ HB hw142_1), (bl_ HB hw142_2), (bl_ HB hw142_3)⟩ (fun hHeld => ?_)
   clear hK K
   refine no_ (some 5) ?_
   refine one_ (i := 9) (N := none) (fb 11 1023) rfl rfl (one_of HT_.out (by kernel_rfl)) (by decide) (fun K hK => ?_)
   have hs59 : w58.cell? ⟨gb147, 0, none⟩ = some (.int .i64 0) := (blk_cell BK147.out 0).trans rfl
   have hfs59 := blk_frozen BK147.out 0
   have hs60 : w58.cell? ⟨gb147, 1, none⟩ = some (.int .i64 0) := (blk_cell BK147.out 1).trans rfl
   have hfs60 := blk_frozen BK147.out 1
   have hs61 : w58.cell? ⟨gb147, 2, none⟩ = some (.int .i64 0) := (blk_cell BK147.out 2).trans rfl
   have hfs61 := blk_frozen BK147.out 2
   have hs62 : w58.cell? ⟨gb147, 3, none⟩ = some (.slice none 0 0) := (blk_cell BK147.out 3).trans rfl
   have hfs62 := blk_frozen BK147.out 3
   refine skip_ (w1 := ?_) (by rfl) rfl ?_ ?_
   rotate_left
   · go_simp
     rfl
   refine hK.out _ _ ⟨((cell_far (p := ⟨gb147, _, none⟩) (fl_ hw142_0 GW147) _).trans (((cell_far (p := ⟨gb147, _, none⟩) (fl_ hw142_0 GW147) _).trans (((cell_far (p := ⟨gb147, _, none⟩) (fl_ hw142_0 GW147) _).trans (((cell_far (p := ⟨gb147, _, none⟩) (fl_ hw142_0 GW147) _).trans (hHeld.1)))))))), ((cell_far (p := ⟨gb147, _, none⟩) (fl_ hw142_1 GW147) _).trans (((cell_far (p := ⟨gb147, _, none⟩) (fl_ hw142_1 GW147) _).trans (((cell_far (p := ⟨gb147, _, none⟩) (fl_ hw142_1 GW147) _).trans (((cell_far (p := ⟨gb147, _, none⟩) (fl_ hw142_1 GW147) _).trans (hHeld.2.1)))))))), ((cell_far (p := ⟨gb147, _, none⟩) (fl_ hw142_2 GW147) _).trans (((cell_far (p := ⟨gb147, _, none⟩) (fl_ hw142_2 GW147) _).trans (((cell_far (p := ⟨gb147, _, none⟩) (fl_ hw142_2 GW147) _).trans (((cell_far (p := ⟨gb147, _, none⟩) (fl_ hw142_2 GW147) _).trans (hHeld.2.2.1)))))))), ((cell_far (p := ⟨gb147, _, none⟩) (fl_ hw142_3 GW147) _).trans (((cell_far (p := ⟨gb147, _, none⟩) (fl_ hw142_3 GW147) _).trans (((cell_far (p := ⟨gb147, _, none⟩) (fl_ hw142_3 GW147) _).trans (((cell_far (p := ⟨gb147, _, none⟩) (fl_ hw142_3 GW147) _).trans (hHeld.2.2.2))))))))⟩ (fun hHeld => ?_)
   clear hK K
   refine pu_ 10 (some 6) (fb 11 2047) HT_ ?_
   refine done_ (done_of HT_.out (by kernel_rfl)) ?_
   obtain ⟨hcz63_0, hcz63_1, hcz63_2, hcz63_3, hfz63_0, hfz63_1, hfz63_2, hfz63_3⟩ := bz4_ BK147
   try go_wp2
   have n0_ : Aside0 (((((w58.setCell ⟨gb147, 0, none⟩ (.int .i64 ((rd_T53 l0 x4_1).f0))).setCell ⟨gb147, 1, none⟩ (.int .i64 ((rd_T53 l0 x4_1).f1))).setCell ⟨gb147, 2, none⟩ (.int .i64 ((rd_T53 l0 x4_1).f2))).setCell ⟨gb147, 3, none⟩ (.slice A142_3 ((rd_T53 l0 x4_1).f3).length c142_3)).heap[gb147]? = some (.cells #[.int .i64 ((rd_T53 l0 x4_1).f0), .int .i64 ((rd_T53 l0 x4_1).f1), .int .i64 ((rd_T53 l0 x4_1).f2), .slice A142_3 ((rd_T53 l0 x4_1).f3).length c142_3] 53 (0, 0))) := ⟨by (with_reducible repeat (first | refine blk_drewN ?_ _ | refine blk_drew ?_ | refine blk_alloc ?_ _)); refine blk_put (cs := #[.int .i64 ((rd_T53 l0 x4_1).f0), .int .i64 ((rd_T53 l0 x4_1).f1), .int .i64 ((rd_T53 l0 x4_1).f2), .slice none 0 0]) ?_ 3 _ rfl; (with_reducible repeat (first | refine blk_drewN ?_ _ | refine blk_drew ?_ | refine blk_alloc ?_ _)); refine blk_put (cs := #[.int .i64 ((rd_T53 l0 x4_1).f0), .int .i64 ((rd_T53 l0 x4_1).f1), .int .i64 0, .slice none 0 0]) ?_ 2 _ rfl; (with_reducible repeat (first | refine blk_drewN ?_ _ | refine blk_drew ?_ | refine blk_alloc ?_ _)); refine blk_put (cs := #[.int .i64 ((rd_T53 l0 x4_1).f0), .int .i64 0, .int .i64 0, .slice none 0 0]) ?_ 1 _ rfl; (with_reducible repeat (first | refine blk_drewN ?_ _ | refine blk_drew ?_ | refine blk_alloc ?_ _)); refine blk_put (cs := #[.int .i64 0, .int .i64 0, .int .i64 0, .slice none 0 0]) ?_ 0 _ rfl; (with_reducible repeat (first | refine blk_drewN ?_ _ | refine blk_drew ?_ | refine blk_alloc ?_ _)); exact BK147.out⟩
   have n1_ : Aside0 (Below w.heap.size w ((((w58.setCell ⟨gb147, 0, none⟩ (.int .i64 ((rd_T53 l0 x4_1).f0))).setCell ⟨gb147, 1, none⟩ (.int .i64 ((rd_T53 l0 x4_1).f1))).setCell ⟨gb147, 2, none⟩ (.int .i64 ((rd_T53 l0 x4_1).f2))).setCell ⟨gb147, 3, none⟩ (.slice A142_3 ((rd_T53 l0 x4_1).f3).length c142_3))) := ⟨bsw_⟩
   (try clear BK147)
   (try clear HB)
   generalize ((((w58.setCell ⟨gb147, 0, none⟩ (.int .i64 ((rd_T53 l0 x4_1).f0))).setCell ⟨gb147, 1, none⟩ (.int .i64 ((rd_T53 l0 x4_1).f1))).setCell ⟨gb147, 2, none⟩ (.int .i64 ((rd_T53 l0 x4_1).f2))).setCell ⟨gb147, 3, none⟩ (.slice A142_3 ((rd_T53 l0 x4_1).f3).length c142_3)) = w64 at n0_ n1_ ⊢
   have BK147 := n0_
   have HB := n1_
   clear n0_ n1_
   have n0_ := ak (blk_drew BK147.out)
   have n1_ := ak (below_drew1 HB.out)
   clear BK147
   clear HB
   have BK147 := n0_
   have HB := n1_
   clear n0_ n1_
   have q66 : (((rd_T53 l0 x4_1).f1) : Int) ≤ ((y143.length : Int) : Int) := oda_
   obtain ⟨i066, hi066, _, hsz66, _⟩ := info_parts info53
   have hroom66 : y143.length ≤ c57 := HC146.out
   have hC66 : Kd.C k53 _ A57 y143.length y143 := HR146.out
   have hcut66 := cut_to (P := Try.prog) 33 53 .i64 Try.underlying33 hi066 A57 y143.length c57 ((rd_T53 l0 x4_1).f1) (oda_) q66 hroom66
   have hr66 := Kd.C_take (m := (((rd_T53 l0 x4_1).f1) : Int).toNat) hC66 (by omega)
   have hy66 : y148.length = (((rd_T53 l0 x4_1).f1) : Int).toNat := (by rw [Ny148.out, List.length_take]; omega)
   rw [← Ny148.out] at hr66
   rw [← hy66] at hcut66
   have HR151 := ak hr66
   have HC151 := ak (show y148.length ≤ c57 from by omega)
   clear hr66 hC66 hroom66 hi066 hsz66
   have KY66 := ak hy66
   clear hy66
   replace q66 := eq_true q66
   have q67 : ((wrap64 (((rd_T53 l0 x4_1).f1) + ((rd_T53 l0 x4_1).f2))) : Int) ≤ ((y143.length : Int) : Int) := oda_
   obtain ⟨i067, hi067, _, hsz67, _⟩ := info_parts info53
   have hroom67 : y143.length ≤ c57 := HC146.out
   have hC67 : Kd.C k53 _ A57 y143.length y143 := HR146.out
   have ql67 : (((rd_T53 l0 x4_1).f1) : Int) ≤ ((wrap64 (((rd_T53 l0 x4_1).f1) + ((rd_T53 l0 x4_1).f2))) : Int) := oda_
   have q067 : (0 : Int) ≤ (((rd_T53 l0 x4_1).f1) : Int) := oda_
   have hcut67 := cut_mid (P := Try.prog) 33 53 .i64 .i64 Try.underlying33 hi067 4 hsz67 A57 y143.length c57 ((rd_T53 l0 x4_1).f1) (wrap64 (((rd_T53 l0 x4_1).f1) + ((rd_T53 l0 x4_1).f2))) q067 ql67 q67 hroom67
   have hr67 := Kd.C_mid (lo := (((rd_T53 l0 x4_1).f1) : Int).toNat) (hi := ((wrap64 (((rd_T53 l0 x4_1).f1) + ((rd_T53 l0 x4_1).f2))) : Int).toNat) (c := c57) hC67 (by omega) (by omega) hroom67
   obtain ⟨A67, hA67⟩ : ∃ A1, A1 = (if c57 = (((rd_T53 l0 x4_1).f1) : Int).toNat then A57 else (A57 : Option Addr).map (·.add ((((rd_T53 l0 x4_1).f1) : Int).toNat * 4))) := ⟨_, rfl⟩
   obtain ⟨c67, hc67⟩ : ∃ c1, c1 = c57 - (((rd_T53 l0 x4_1).f1) : Int).toNat := ⟨_, rfl⟩
   have hy67 : y153.length = ((wrap64 (((rd_T53 l0 x4_1).f1) + ((rd_T53 l0 x4_1).f2))) : Int).toNat - (((rd_T53 l0 x4_1).f1) : Int).toNat := (by rw [Ny153.out, List.length_drop, List.length_take] <;> omega)
   rw [show ((y143).take ((wrap64 (((rd_T53 l0 x4_1).f1) + ((rd_T53 l0 x4_1).f2))) : Int).toNat).drop (((rd_T53 l0 x4_1).f1) : Int).toNat = y153 from Ny153.out.symm] at hr67
   replace hr67 : Kd.C k53 _ A67 y153.length y153 := (by rw [hA67]; exact hr67)
   rw [← hy67, ← hA67, ← hc67] at hcut67
   have HR156 := ak hr67
   have HC156 := ak (show y153.length ≤ c67 from by rw [hy67, hc67]; exact Nat.sub_le_sub_right (Nat.le_trans (by omega) hroom67) _)
   clear hr67 hC67 hroom67 hi067 hsz67 hc67
   have KY67 := ak hy67
   have KA67 := ak hA67
   clear hy67 hA67
   replace q67 := eq_true q67
   refine start_ (n := 17) (S := fun w' => w'.cell? ⟨gb147, 0, none⟩ = some (.int .i64 ((rd_T53 l0 x4_1).f0)) ∧ w'.cell? ⟨gb147, 1, none⟩ = some (.int .i64 ((rd_T53 l0 x4_1).f1)) ∧ w'.cell? ⟨gb147, 2, none⟩ = some (.int .i64 ((rd_T53 l0 x4_1).f2)) ∧ w'.cell? ⟨gb147, 3, none⟩ = some (.slice A142_3 ((rd_T53 l0 x4_1).f3).length c142_3)) (ds := []) (fb 17 0) (by kernel_rfl) rfl rfl ⟨(blk_cell BK147.out 0).trans rfl, (blk_cell BK147.out 1).trans rfl, (blk_cell BK147.out 2).trans rfl, (blk_cell BK147.out 3).trans rfl⟩ (fun hHeld => ?_); refine with_tabW code_deep.tab11 code_deep.bits11 (fun HT_ HW_ => ?_)
   generalize w64.drew = w65 at BK147 HB HR151 HR156 hHeld ⊢
   refine pu_ 0 (some 44) (fb 17 1) HT_ ?_
   refine pu_ 1 (some 45) (fb 17 3) HT_ ?_
   refine pu_ 5 (some 49) (fb 17 35) HT_ ?_
   refine pu_ 6 (some 50) (fb 17 99) HT_ ?_
   refine pu_ 8 (some 52) (fb 17 355) HT_ ?_
   refine pu_ 10 (some 54) (fb 17 1379) HT_ ?_
   refine ta4_ 2 (some 46) (fb 17 1383) HT_ HW_ hHeld ?_
   refine pu_ 3 (some 47) (fb 17 1391) HT_ ?_
   refine ta4_ 7 (some 51) (fb 17 1519) HT_ HW_ hHeld ?_
   refine ta4_ 9 (some 53) (fb 17 2031) HT_ HW_ hHeld ?_
   refine ta4_ 11 (some 55) (fb 17 4079) HT_ HW_ hHeld ?_
   refine pu_ 12 (some 56) (fb 17 8175) HT_ ?_
   refine pu_ 13 (some 57) (fb 17 16367) HT_ ?_
   refine one_ (i := 4) (N := some 48) (fb 17 16383) rfl rfl (one_of HT_.out (by kernel_rfl)) (by decide) (fun K hK => ?_)
   refine goes_ Try.func37 (by kernel_rfl) rfl #[.slice A57 y148.length c57] (by rfl) rfl rfl (by (try simp only [List.map_toArray, List.map_cons, List.map_nil]); first | done | rfl | (simp only [List.length_drop, List.length_take]; rfl)) ?_
   with_reducible refine (ih k1 (by have := HK1.out; omega) _ _ y148 t152 _ ?side1 ?side2 A19.out).mono ?_
   (case side1 => exact cb_ HR151 HB)
   (case side2 => exact HC151.out)
   rintro e w68 ⟨rfl, hb⟩
   refine ⟨_, rfl, ?_⟩
   have n0_ := bb_ BK147 hb
   have n1_ := ak (below_step bsw_ hb)
   clear BK147
   clear HB
   have BK147 := n0_
   have HB := n1_
   clear n0_ n1_
   (try clear hb)
   (try clear hb2)
   (try clear hk)
   (try clear hi)
   refine hK.out _ _ (bc4_ BK147) (fun hHeld => ?_)
   clear hK K
   refine no_ (some 48) ?_
   refine one_ (i := 14) (N := some 58) (fb 17 32767) rfl rfl (one_of HT_.out (by kernel_rfl)) (by decide) (fun K hK => ?_)
   refine goes_ Try.func37 (by kernel_rfl) rfl #[.slice A67 y153.length c67] (by rfl) rfl rfl (by (try simp only [List.map_toArray, List.map_cons, List.map_nil]); first | done | rfl | (simp only [List.length_drop, List.length_take]; rfl)) ?_
   with_reducible refine (ih k1 (by have := HK1.out; omega) _ _ y153 t157 _ ?side1 ?side2 A23.out).mono ?_
   (case side1 => exact cb_ HR156 HB)
   (case side2 => exact HC156.out)
   rintro e w69 ⟨rfl, hb⟩
   refine ⟨_, rfl, ?_⟩
   have n0_ := bb_ BK147 hb
   have n1_ := ak (below_step bsw_ hb)
   clear BK147
   clear HB
   have BK147 := n0_
   have HB := n1_
   clear n0_ n1_
   (try clear hb)
   (try clear hb2)
   (try clear hk)
   (try clear hi)
   refine hK.out _ _ (bc4_ BK147) (fun hHeld => ?_)
   clear hK K
   refine no_ (some 58) ?_
   refine pu_ 15 (some 7) (fb 17 65535) HT_ ?_
   refine pu_ 16 (some 8) (fb 17 131071) HT_ ?_
   refine done_ (done_of HT_.out (by kernel_rfl)) ?_
   obtain ⟨hcz70_0, hcz70_1, hcz70_2, hcz70_3, hfz70_0, hfz70_1, hfz70_2, hfz70_3⟩ := bz4_ BK147
   try go_wp2
   go_roundg k1
   case measure => have := HK1.out; omega
   case rel => exact ⟨(ji55), (wrap64 ((wrap64 (x4_1 + (wrap64 (((rd_T53 l0 x4_1).f1) + ((rd_T53 l0 x4_1).f2))))) + 1)), (by first | rfl | (simp; done) | (simp only [← hji55] <;> (first | rfl | simp)) | (simp [*]; done)), (by first | rfl | (simp; done) | (simp [*]; done)), H', ⟨by have := HK1.out; omega⟩, ⟨bsw_⟩⟩

end Go.Proofs.Ytpeblomhhofhkaa.H
