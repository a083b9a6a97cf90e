/-
  PROVED: The walks of shape's functions, by hand. Condition: what each lemma states.
-/
import Derived.Test.YtpeblomhhofhkaaHShA
namespace Go.Proofs.Ytpeblomhhofhkaa.H
open Go.RowKit Go.Proofs.YtpeblomhhofhkaaW.PrintWords Go.Proofs.YtpeblomhhofhkaaW.PrintLast Go.Proofs.YtpeblomhhofhkaaW.PrintMore Go.Proofs.Ytpeblomhhofhkaa.Ho
set_option linter.unusedVariables false
set_option linter.unusedSimpArgs false
section
variable {P : Program} {ops : Array Oper} {o : Oper} {rest : List Oper} {a : Act} {Q : Exit → Act → World → Prop} {W : World}
theorem lit_event (hgd : o.guard = none) {N : Tmp} (_hd : o.dst = some N) {cs : Array Value} {t : TypeId} {n : Nat}
    (hrun : (execOp a.eval o).run P W = .ok (.value (.slice (some ⟨W.heap.size, 0, none⟩) n n)) (W.alloc (.cells cs t (0, 0))))
    (h : ∀ g, g = W.heap.size → ∀ w1, w1.heap[g]? = some (.cells cs t (0, 0)) → Below W.heap.size W w1 → wpList P ops Q rest (a.put o.dst (.slice (some ⟨g, 0, none⟩) n n)) w1) : wpList P ops Q (o :: rest) a W :=
  Kd.event_run hgd hrun (h _ rfl _ (blk_new W _) (below_alloc (Below.refl _ _) _))
end
theorem bst_of {w W w2 : World} (k : Below W.heap.size W w2) (h : Below w.heap.size w W) : Below w.heap.size w w2 := below_step h k
def opB (o : S50) : List Int := (o.f0 % 256) :: b4 o.f1
def stepB (s : S53) : List Int := [s.f0 % 256, s.f1 % 256, s.f2 % 256, (s.f3.length : Int) % 256] ++ s.f3.flatMap opB
def codeB (c : List S53) : List Int := ((c.length : Int) % 256) :: c.flatMap stepB
theorem flat_sn {α : Type} (l : List α) (z : α) (f : α → List Int) (i : Nat) (hi : i < l.length) : (l.take (i + 1)).flatMap f = (l.take i).flatMap f ++ f (l.getD i z) := by
  rw [List.take_add_one, List.getElem?_eq_getElem hi, List.flatMap_append, List.getD_eq_getElem?_getD, List.getElem?_eq_getElem hi]
  simp
theorem flat_le {α : Type} (l : List α) (f : α → List Int) (i : Nat) : ((l.take i).flatMap f).length ≤ (l.flatMap f).length := by
  have h := congrArg (fun x => (List.flatMap f x).length) (List.take_append_drop i l)
  simp only [List.flatMap_append, List.length_append] at h
  omega
theorem len_flat {α : Type} (f : α → List Int) (h : ∀ a, 1 ≤ (f a).length) : ∀ l : List α, l.length ≤ (l.flatMap f).length
  | [] => Nat.zero_le _
  | x :: l => by
    have := len_flat f h l
    have := h x
    rw [List.flatMap_cons, List.length_append, List.length_cons]
    omega
set_option maxHeartbeats 8000000 in
set_option maxRecDepth 100000 in
theorem out_steps (g : Nat) (A0 : Option Addr) (c0 : Nat) (l0 : List S53) (v : Value) (bs : List Int) (w0 w : World) (hr0 : Kd.C k53 w0 A0 l0.length l0) (hc0 : l0.length ≤ c0) (h : Out g v bs w0 w) (hg : w0.heap.size ≤ g) (hl : bs.length + (codeB l0).length < 140737488355328) :
    Calls Try.prog 24 #[.pointer (some ⟨g, 0, none⟩), .slice A0 l0.length c0] w fun e w' => e = .returned (.tuple #[]) ∧ ∃ v', Out g v' (bs ++ codeB l0) w0 w' ∧ Grew g v v' w w' := by
  have HR0 := ak hr0
  have HC0 := ak hc0
  have HO := ak h
  clear hr0 hc0 h
  have hl1 := hl
  simp only [codeB, List.length_cons] at hl1
  have hll := len_flat stepB (fun s => by simp only [stepB, List.length_append, List.length_cons]; omega) l0
  have hmf : ∀ (fn : Fn) (first cap : Array Value) (w : World), (Instr.makeFunc fn first cap).run Try.prog w = .ok (.func fn first cap) w := fun _ _ _ _ => rfl
  go_enter Try.func24, Try.ntmps24
  go_wp2_with (go_at_call 23; refine (HO.out.one (l0.length : Int) hg (by omega)).mono ?_; rintro e w1 ⟨rfl, v1, h1, hG⟩; clear HO; have HO := ak h1; have GG := ak hG; clear h1 hG)
  go_loopg [19] (l0.length + 1) (fun kq v19 w' => ∃ (x : Int) (bs1 : List Int) (v1 : Value), v19 = .int .i64 x ∧ Aside0 (0 ≤ x ∧ (kq : Int) + x = l0.length + 1 ∧ x ≤ l0.length) ∧ Aside0 (bs1 = bs ++ ((l0.length : Int) % 256) :: (l0.take x.toNat).flatMap stepB) ∧ Aside0 (Out g v1 bs1 w0 w') ∧ Aside0 (Grew g v v1 w w'))
  case atStart => exact ⟨0, _, _, by first | rfl | (simp; done), ⟨by omega⟩, ⟨by simp⟩, HO, GG⟩
  case round =>
    clear HO GG
    obtain ⟨x, bs1, v1, rfl, hk, hbs, HO, GG⟩ := hrel
    have hx := hk.out
    obtain ⟨k1, hk1⟩ : ∃ k1, gk = k1 + 1 := ⟨gk - 1, by omega⟩
    subst hk1
    by_cases c : x < (l0.length : Int)
    · have c_ : decide (x < (l0.length : Int)) = true := decide_eq_true c
      obtain ⟨ad, A3, c3, e3, hx0, hx1, hx2, hx3, hl3, hi3⟩ := at_T53 HR0.out x (by omega) (by omega)
      cases e3
      replace hx0 := bl_ ⟨HO.out.below⟩ hx0
      replace hx1 := bl_ ⟨HO.out.below⟩ hx1
      replace hx2 := bl_ ⟨HO.out.below⟩ hx2
      replace hx3 := bl_ ⟨HO.out.below⟩ hx3
      have p_ := eq_true (show 0 ≤ x by omega)
      have q_ := eq_true c
      have hlen : bs1.length + (4 + ((rd_T53 l0 x).f3.flatMap opB).length) ≤ bs.length + 1 + (l0.flatMap stepB).length ∧ (l0.take (x.toNat + 1)).flatMap stepB = (l0.take x.toNat).flatMap stepB ++ stepB (rd_T53 l0 x) := by
        have e1 := flat_sn l0 z53 stepB x.toNat (by omega)
        have e2 := flat_le l0 stepB (x.toNat + 1)
        have e3 : (stepB (l0.getD x.toNat z53)).length = 4 + ((l0.getD x.toNat z53).f3.flatMap opB).length := by simp only [stepB, List.length_append, List.length_cons, List.length_nil]
        rw [e1, List.length_append, e3] at e2
        refine ⟨?_, e1⟩
        rw [hbs.out, List.length_append, List.length_cons]
        show _ + (4 + ((l0.getD x.toNat z53).f3.flatMap opB).length) ≤ _
        omega
      obtain ⟨hlen, hflat⟩ := hlen
      generalize hs : rd_T53 l0 x = s at *
      have HW := ak (Below.refl wr.heap.size wr)
      go_wp2_with (first
        | ((with_reducible refine gate_dst (N := 6) rfl ?_); refine box_event ?hg (N := 6) ?hd (cs := #[.int .i64 0, .int .i64 0, .int .i64 0, .slice none 0 0]) (t := 53) ?hr ?_; (case hd => rfl); (case hg => rfl); (case hr => first | (go_simp; done) | (go_simp; rfl)); intro gb hgb w2 hbox hb2; replace HW := ak (bst_of hb2 HW.out); have BK := ak hbox; have GB := ak (show wr.heap.size ≤ gb by rw [hgb]; exact Nat.le_refl _); clear hb2 hbox hgb; obtain ⟨hz0, hz1, hz2, hz3, hf0, hf1, hf2, hf3⟩ := bz4_ BK)
        | ((with_reducible refine gate_dst (N := 32) rfl ?_); refine lit_event ?hg (N := 32) ?hd (cs := #[.int .i64 s.f0, .int .i64 s.f1, .int .i64 s.f2, .int .i64 (s.f3.length : Int)]) (t := 3) (n := 4) ?hr ?_; (case hd => rfl); (case hg => rfl); (case hr => first | (go_simp; done) | (go_simp; rfl)); intro gl hgl w3 hlit hb3; clear hgl; replace HW := ak (bst_of hb3 (below_set (below_set (below_set (below_set HW.out GB.out) GB.out) GB.out) GB.out)); replace BK := ak (blk_below (blk_put (blk_put (blk_put (blk_put BK.out 0 (.int .i64 s.f0) rfl) 1 (.int .i64 s.f1) rfl) 2 (.int .i64 s.f2) rfl) 3 (.slice A3 s.f3.length c3) rfl) hb3); clear hb3; have HL := ak hlit; clear hlit hz0 hz1 hz2 hz3 hf0 hf1 hf2 hf3))
      have HO3 := ak (HO.out.on HW.out)
      have GG3 := ak (GG.out.on HW.out)
      clear HO GG HW
      clear hx0 hx1 hx2 hx3
      go_loopg [34] 5 (fun kq v34 w' => ∃ (y : Int) (bs2 : List Int) (v2 : Value), v34 = .int .i64 y ∧ Aside0 (0 ≤ y ∧ (kq : Int) + y = 5 ∧ y ≤ 4) ∧ Aside0 (bs2 = bs1 ++ [s.f0 % 256, s.f1 % 256, s.f2 % 256, (s.f3.length : Int) % 256].take y.toNat) ∧ Aside0 (Out g v2 bs2 w0 w') ∧ Aside0 (Grew g v1 v2 w3 w'))
      case atStart => exact ⟨0, _, _, by first | rfl | (simp; done), ⟨by omega⟩, ⟨by simp⟩, HO3, ⟨Grew.refl _ _ _⟩⟩
      case round =>
        obtain ⟨y, bs2, v2, rfl, hk2, hbs2, HO, GI⟩ := hrel
        have hy := hk2.out
        obtain ⟨hz0, hz1, hz2, hz3, hf0, hf1, hf2, hf3⟩ := bz4_ ⟨GI.out.kept HO3.out HL.out (by decide) (by decide)⟩
        have hb2 : bs2.length ≤ bs1.length + y.toNat := by rw [hbs2.out, List.length_append, List.length_take]; omega
        rcases (show y = 0 ∨ y = 1 ∨ y = 2 ∨ y = 3 ∨ y = 4 by omega) with rfl | rfl | rfl | rfl | rfl
        · go_wp2_with (go_at_call 23; refine (HO.out.one s.f0 hg (by omega)).mono ?_; rintro e w4 ⟨rfl, v4, h4, hG4⟩; have HO4 := ak h4; have GI4 := ak (GI.out.trans hG4); clear h4 hG4)
          go_roundg 4
          case measure => omega
          case rel => exact ⟨1, _, _, by rfl, ⟨by decide⟩, ⟨by rw [hbs2.out, List.append_assoc]; rfl⟩, HO4, GI4⟩
        · go_wp2_with (go_at_call 23; refine (HO.out.one s.f1 hg (by omega)).mono ?_; rintro e w4 ⟨rfl, v4, h4, hG4⟩; have HO4 := ak h4; have GI4 := ak (GI.out.trans hG4); clear h4 hG4)
          go_roundg 3
          case measure => omega
          case rel => exact ⟨2, _, _, by rfl, ⟨by decide⟩, ⟨by rw [hbs2.out, List.append_assoc]; rfl⟩, HO4, GI4⟩
        · go_wp2_with (go_at_call 23; refine (HO.out.one s.f2 hg (by omega)).mono ?_; rintro e w4 ⟨rfl, v4, h4, hG4⟩; have HO4 := ak h4; have GI4 := ak (GI.out.trans hG4); clear h4 hG4)
          go_roundg 2
          case measure => omega
          case rel => exact ⟨3, _, _, by rfl, ⟨by decide⟩, ⟨by rw [hbs2.out, List.append_assoc]; rfl⟩, HO4, GI4⟩
        · go_wp2_with (go_at_call 23; refine (HO.out.one (s.f3.length : Int) hg (by omega)).mono ?_; rintro e w4 ⟨rfl, v4, h4, hG4⟩; have HO4 := ak h4; have GI4 := ak (GI.out.trans hG4); clear h4 hG4)
          go_roundg 1
          case measure => omega
          case rel => exact ⟨4, _, _, by rfl, ⟨by decide⟩, ⟨by rw [hbs2.out, List.append_assoc]; rfl⟩, HO4, GI4⟩
        · have hO5 := HO.out
          rw [hbs2.out] at hO5
          have HO5 := ak hO5
          clear hO5 HO hz0 hz1 hz2 hz3 hf0 hf1 hf2 hf3
          have BK5 := ak (GI.out.kept HO3.out BK.out (by decide) (by decide))
          obtain ⟨hz0, hz1, hz2, hz3, hf0, hf1, hf2, hf3⟩ := bz4_ BK5
          have GI5 := ak GI.out
          have hlo := len_flat opB (fun s => by simp only [opB, List.length_cons]; omega) s.f3
          go_wp2
          go_loopg [45] (s.f3.length + 1) (fun kq v45 w' => ∃ (z : Int) (bs3 : List Int) (v3 : Value), v45 = .int .i64 z ∧ Aside0 (0 ≤ z ∧ (kq : Int) + z = s.f3.length + 1 ∧ z ≤ s.f3.length) ∧ Aside0 (bs3 = bs1 ++ [s.f0 % 256, s.f1 % 256, s.f2 % 256, (s.f3.length : Int) % 256] ++ (s.f3.take z.toNat).flatMap opB) ∧ Aside0 (Out g v3 bs3 w0 w') ∧ Aside0 (Grew g v1 v3 w3 w'))
          case atStart => exact ⟨0, _, _, by first | rfl | (simp; done), ⟨by omega⟩, ⟨by simp⟩, HO5, GI5⟩
          case round =>
            clear hz0 hz1 hz2 hz3 hf0 hf1 hf2 hf3 HO5 GI5 GI
            obtain ⟨z, bs3, v3, rfl, hk3, hbs3, HO, GI⟩ := hrel
            have hz := hk3.out
            obtain ⟨k3, hk4⟩ : ∃ k3, gk = k3 + 1 := ⟨gk - 1, by omega⟩
            subst hk4
            by_cases c2 : z < (s.f3.length : Int)
            · have c2_ : decide (z < (s.f3.length : Int)) = true := decide_eq_true c2
              have hlen3 : bs3.length + 5 ≤ bs1.length + 4 + (s.f3.flatMap opB).length ∧ (s.f3.take (z.toNat + 1)).flatMap opB = (s.f3.take z.toNat).flatMap opB ++ opB (rd_T50 s.f3 z) := by
                have e1 := flat_sn s.f3 z50 opB z.toNat (by omega)
                have e2 := flat_le s.f3 opB (z.toNat + 1)
                have e3 : (opB (s.f3.getD z.toNat z50)).length = 5 := rfl
                rw [e1, List.length_append, e3] at e2
                refine ⟨?_, e1⟩
                rw [hbs3.out, List.length_append, List.length_append]
                simp only [List.length_cons, List.length_nil]
                omega
              obtain ⟨hlen3, hflat3⟩ := hlen3
              obtain ⟨ad2, e2, hy0, hy1⟩ := at_T50 hi3 z (by omega) (by omega)
              cases e2
              replace hy0 := bl_ ⟨HO.out.below⟩ hy0
              replace hy1 := bl_ ⟨HO.out.below⟩ hy1
              have p2_ := eq_true (show 0 ≤ z by omega)
              have q2_ := eq_true c2
              generalize rd_T50 s.f3 z = p at *
              have HW := ak (Below.refl wr.heap.size wr)
              go_wp2_with (first
                | ((with_reducible refine gate_dst (N := 10) rfl ?_); refine box_event ?hg (N := 10) ?hd (cs := #[.int .i64 0, .int .i64 0]) (t := 50) ?hr ?_; (case hd => rfl); (case hg => rfl); (case hr => first | (go_simp; done) | (go_simp; rfl)); intro gp hgp w5 hbox hb5; replace HW := ak (bst_of hb5 HW.out); have BP := ak hbox; have GP := ak (show wr.heap.size ≤ gp by rw [hgp]; exact Nat.le_refl _); clear hb5 hbox hgp; obtain ⟨hz0, hz1, hf0, hf1⟩ := bz2_ BP)
                | (go_at_call 23; have HW2 := ak (below_set (v := .int .i64 p.f1) (j := 1) (below_set (v := .int .i64 p.f0) (j := 0) HW.out GP.out) GP.out); have BP2 := ak (blk_put (blk_put BP.out 0 (.int .i64 p.f0) rfl) 1 (.int .i64 p.f1) rfl); have HO2 := ak (HO.out.on HW2.out); refine (HO2.out.one p.f0 hg (by omega)).mono ?_; rintro e w6 ⟨rfl, v6, h6, hG6⟩; have BP6 := ak (hG6.kept HO2.out BP2.out (by decide) (by decide)); have GI6 := ak ((GI.out.on HW2.out).trans hG6); have HO6 := ak h6; clear h6 hG6 HO2 BP2 HW2 hz0 hz1 hf0 hf1; obtain ⟨hz0, hz1, hf0, hf1⟩ := bz2_ BP6)
                | ((with_reducible refine gate_callee (f := 38) rfl ?_); refine goesL_ (some 56) rfl rfl Try.func38 (by kernel_rfl) rfl #[.pointer (some ⟨g, 0, none⟩), .int .i64 p.f1] rfl mp_ ?_; refine (HO6.out.four p.f1 hg (by rw [List.length_append, List.length_singleton]; omega)).mono ?_; rintro e w7 ⟨rfl, v7, h7, hG7⟩; refine ⟨_, rfl, ?_⟩; have GI7 := ak (GI6.out.trans hG7); have HO7 := ak h7; clear h7 hG7))
              go_roundg k3
              case measure => omega
              case rel =>
                refine ⟨z + 1, _, _, ?_, ⟨by omega⟩, ⟨?_⟩, HO7, GI7⟩
                · first | rfl | rw [show wrap64 (z + 1) = z + 1 by unfold wrap64; omega]
                · rw [show (z + 1).toNat = z.toNat + 1 by omega, hflat3, hbs3.out]
                  simp only [opB, List.append_assoc, List.cons_append, List.nil_append]
            · have c2_ : decide (z < (s.f3.length : Int)) = false := decide_eq_false c2
              go_wp2
              go_roundg k1
              case measure => omega
              case rel =>
                refine ⟨x + 1, _, _, ?_, ⟨by omega⟩, ⟨?_⟩, HO, ⟨GG3.out.trans GI.out⟩⟩
                · first | rfl | rw [show wrap64 (x + 1) = x + 1 by unfold wrap64; omega]
                · rw [show (x + 1).toNat = x.toNat + 1 by omega, hflat, hbs3.out, hbs.out, show z.toNat = s.f3.length by omega, List.take_length]
                  simp only [stepB, List.append_assoc, List.cons_append, List.nil_append]
    · have c_ : decide (x < (l0.length : Int)) = false := decide_eq_false c
      go_wp2
      go_end0
      refine ⟨rfl, v1, ?_, GG.out⟩
      have := HO.out
      rw [hbs.out, show x.toNat = l0.length by omega, List.take_length] at this
      exact this
end Go.Proofs.Ytpeblomhhofhkaa.H
