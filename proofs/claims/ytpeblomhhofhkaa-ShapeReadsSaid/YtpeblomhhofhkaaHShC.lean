/-
  PROVED: The walks of shape's functions, by hand. Condition: what each lemma states.
-/
import Derived.Test.YtpeblomhhofhkaaHShB
import Derived.Test.YtpeblomhhofhkaaHx5
namespace Go.Proofs.Ytpeblomhhofhkaa.H
open Go.RowKit Go.Proofs.YtpeblomhhofhkaaW.PrintWords Go.Proofs.YtpeblomhhofhkaaW.PrintLast Go.Proofs.YtpeblomhhofhkaaW.PrintMore Go.Proofs.Ytpeblomhhofhkaa.Ho
set_option linter.unusedVariables false
set_option linter.unusedSimpArgs false
def shape_Size.f (k : Nat) (l0 : List S53) : Option Int := (code_Check.f k l0).bind fun e => if e = 0 then (if (codeB l0).length < 140737488355328 then some ((codeB l0).length : Int) else none) else some 0
theorem shape_Size.mono (l0 : List S53) (k : Nat) : LeO (shape_Size.f k l0) (shape_Size.f (k + 1) l0) := LeO.bind (code_Check.mono l0 k) (fun _ => LeO.refl _)
theorem Out.new {g : Nat} {w w1 : World} (h : w1.heap[g]? = some (.cells #[.slice none 0 0] 56 (0, 0))) (hb : Below w.heap.size w w1) : Out g (.slice none 0 0) [] w w1 := ⟨h, Kd.R_nil _ _ _ _ _, hb⟩
set_option maxHeartbeats 8000000 in
set_option maxRecDepth 100000 in
theorem shape_Size.calls (k : Nat) (A0 : Option Addr) (c0 : Nat) (l0 : List S53) (r : Int) (w : World) (hr0 : Kd.C k53 w A0 l0.length l0) (hc0 : l0.length ≤ c0) (h : shape_Size.f k l0 = some r) :
    Calls Try.prog 17 #[.slice A0 l0.length c0] w fun e w' => e = .returned (.int .i64 r) ∧ Below w.heap.size w w' := by
  have HR0 := ak hr0
  have HC0 := ak hc0
  have HB := ak (Below.refl w.heap.size w)
  have H : ((code_Check.f k l0).bind fun e => if e = 0 then (if (codeB l0).length < 140737488355328 then some ((codeB l0).length : Int) else none) else some 0) = some r := h
  clear h hr0 hc0
  obtain ⟨t1, A1, H⟩ := bd_ H
  by_cases c1 : t1 = 0
  · rw [if_pos c1] at H
    have c1b0 : (t1 == 0) = true := beq_iff_eq.mpr c1
    have c1b1 : (t1 != 0) = false := bne_eq_false_iff_eq.mpr c1
    by_cases c2 : (codeB l0).length < 140737488355328
    · rw [if_pos c2] at H
      obtain rfl := Option.some.inj H
      go_enter Try.func17, Try.ntmps17
      go_wp2_with (first
        | ((with_reducible refine gate_callee (f := 21) rfl ?_); refine goesL_ (some 5) rfl rfl Try.func21 (by kernel_rfl) rfl #[.slice A0 l0.length c0] rfl mp_ ?_; refine (code_Check.calls k A0 c0 l0 t1 _ (Kd.C_below HR0.out HB.out) HC0.out A1.out).mono ?_; rintro e w1 ⟨rfl, hb⟩; refine ⟨_, rfl, ?_⟩; replace HB := ak (below_step HB.out hb); clear hb)
        | ((with_reducible refine gate_dst (N := 8) rfl ?_); refine box_event ?hg (N := 8) ?hd (cs := #[.slice none 0 0]) (t := 56) ?hr ?_; (case hd => rfl); (case hg => rfl); (case hr => first | (go_simp; done) | (go_simp; rfl)); intro gb hgb w2 hbox hb2; have GB := ak (show w.heap.size ≤ gb by rw [hgb]; exact HB.out.size); replace HB := ak (below_step HB.out hb2); have HO := ak (Out.new hbox HB.out); clear hb2 hbox hgb)
        | ((with_reducible refine gate_callee (f := 24) rfl ?_); refine goesL_ (some 11) rfl rfl Try.func24 (by kernel_rfl) rfl #[.pointer (some ⟨gb, 0, none⟩), .slice A0 l0.length c0] rfl mp_ ?_; refine (out_steps gb A0 c0 l0 _ _ w _ HR0.out HC0.out HO.out GB.out (by simpa using c2)).mono ?_; rintro e w3 ⟨rfl, v3, h3, hG3⟩; refine ⟨_, rfl, ?_⟩; obtain ⟨A3, c3, e3⟩ := Kd.R_slice h3.row; subst e3; obtain ⟨hz0, hf0⟩ := bz1_ (ak h3.blk)))
      go_ret
      exact ⟨by simp, h3.below⟩
    · rw [if_neg c2] at H
      exact absurd H (by simp)
  · rw [if_neg c1] at H
    have c1b0 : (t1 == 0) = false := beq_eq_false_iff_ne.mpr c1
    have c1b1 : (t1 != 0) = true := bne_iff_ne.mpr c1
    obtain rfl := Option.some.inj H
    go_enter Try.func17, Try.ntmps17
    go_wp2_with ((with_reducible refine gate_callee (f := 21) rfl ?_); refine goesL_ (some 5) rfl rfl Try.func21 (by kernel_rfl) rfl #[.slice A0 l0.length c0] rfl mp_ ?_; refine (code_Check.calls k A0 c0 l0 t1 _ (Kd.C_below HR0.out HB.out) HC0.out A1.out).mono ?_; rintro e w1 ⟨rfl, hb⟩; refine ⟨_, rfl, ?_⟩; replace HB := ak (below_step HB.out hb); clear hb)
    go_ret
    exact ⟨rfl, HB.out⟩
def shape_wr (k : Nat) : List Int → List (List S53) → Option (List Int × Int)
  | acc, [] => some (acc, 0)
  | acc, c :: cs => (code_Check.f k c).bind fun e => if e = 0 then (if acc.length + (codeB c).length < 140737488355328 then shape_wr k (acc ++ codeB c) cs else none) else some ([], 1)
theorem shape_wr_mono (k : Nat) : ∀ (l : List (List S53)) (acc : List Int), LeO (shape_wr k acc l) (shape_wr (k + 1) acc l)
  | [], acc => LeO.refl _
  | c :: cs, acc => LeO.bind (code_Check.mono c k) (fun _ => LeO.ite (LeO.ite (shape_wr_mono k cs _) (LeO.refl _)) (LeO.refl _))
def shape_Write.f (k : Nat) (l0 : List (List S53)) : Option (List Int × Int) := if (l0.length : Int) > 8 then some ([], 1) else shape_wr k [(l0.length : Int) % 256] l0
theorem shape_Write.mono (l0 : List (List S53)) (k : Nat) : LeO (shape_Write.f k l0) (shape_Write.f (k + 1) l0) := LeO.ite (LeO.refl _) (shape_wr_mono k l0 _)
theorem drop_consG {α : Type} (l : List α) (z : α) (i : Nat) (h : i < l.length) : l.drop i = l.getD i z :: l.drop (i + 1) := by
  rw [List.drop_eq_getElem_cons h, List.getD_eq_getElem?_getD, List.getElem?_eq_getElem h]; rfl
set_option maxHeartbeats 8000000 in
set_option maxRecDepth 100000 in
theorem shape_Write.calls (k : Nat) (A0 : Option Addr) (c0 : Nat) (l0 : List (List S53)) (r1 : List Int) (r2 : Int) (w : World) (hr0 : Kd.C (Kd.slice 53 k53) w A0 l0.length l0) (hc0 : l0.length ≤ c0) (h : shape_Write.f k l0 = some (r1, r2)) :
    Calls Try.prog 11 #[.slice A0 l0.length c0] w fun e w' => ∃ v0_ : Value, e = .returned (.tuple #[v0_, .int .i64 r2]) ∧ Kd.R (Kd.int .u8) 5 w' w.heap.size (fun _ => True) v0_ r1 ∧ Below w.heap.size w w' := by
  have HR0 := ak hr0
  have HC0 := ak hc0
  have HB := ak (Below.refl w.heap.size w)
  have H : (if (l0.length : Int) > 8 then some ([], 1) else shape_wr k [(l0.length : Int) % 256] l0) = some (r1, r2) := h
  clear h hr0 hc0
  by_cases c1 : (l0.length : Int) > 8
  · rw [if_pos c1] at H
    have c2b0 : decide (8 < (l0.length : Int)) = true := decide_eq_true c1
    have c2b1 : decide (8 < l0.length) = true := decide_eq_true (by omega)
    simp only [Option.some.injEq, Prod.mk.injEq] at H
    obtain ⟨rfl, rfl⟩ := H
    go_enter Try.func11, Try.ntmps11
    go_wp2
    go_ret2
    exact ⟨_, rfl, Kd.R_nil _ _ _ _ _, HB.out⟩
  · rw [if_neg c1] at H
    have c2b0 : decide (8 < (l0.length : Int)) = false := decide_eq_false c1
    have c2b1 : decide (8 < l0.length) = false := decide_eq_false (by omega)
    have H' := ak H
    clear H
    go_enter Try.func11, Try.ntmps11
    go_wp2_with (first
      | ((with_reducible refine gate_dst (N := 11) rfl ?_); refine box_event ?hg (N := 11) ?hd (cs := #[.slice none 0 0]) (t := 56) ?hr ?_; (case hd => rfl); (case hg => rfl); (case hr => first | (go_simp; done) | (go_simp; rfl)); intro gb hgb w2 hbox hb2; have GB := ak (show w.heap.size ≤ gb by rw [hgb]; exact HB.out.size); have HO := ak (Out.new hbox (below_step HB.out hb2)); clear hb2 hbox hgb)
      | ((with_reducible refine gate_callee (f := 23) rfl ?_); refine goesL_ (some 15) rfl rfl Try.func23 (by kernel_rfl) rfl #[.pointer (some ⟨gb, 0, none⟩), .int .i64 (l0.length : Int)] rfl mp_ ?_; refine (HO.out.one (l0.length : Int) GB.out (by decide)).mono ?_; rintro e w3 ⟨rfl, v3, h3, hG3⟩; refine ⟨_, rfl, ?_⟩; have HO3 := ak h3; clear h3 hG3))
    go_loopg [18] (l0.length + 1) (fun kq v18 w' => ∃ (x : Int) (acc : List Int) (v1 : Value), v18 = .int .i64 x ∧ Aside0 (0 ≤ x ∧ (kq : Int) + x = l0.length + 1 ∧ x ≤ l0.length) ∧ Aside0 (shape_wr k acc (l0.drop x.toNat) = some (r1, r2)) ∧ Aside0 (Out gb v1 acc w w'))
    case atStart => exact ⟨0, _, _, by first | rfl | (simp; done), ⟨by omega⟩, ⟨H'.out⟩, HO3⟩
    case round =>
      clear H' HO HO3
      obtain ⟨x, acc, v1, rfl, hk, H', HO⟩ := hrel
      have hx := hk.out
      have H := H'.out
      obtain ⟨k1, hk1⟩ : ∃ k1, gk = k1 + 1 := ⟨gk - 1, by omega⟩
      subst hk1
      by_cases c : x < (l0.length : Int)
      · have c_ : decide (x < (l0.length : Int)) = true := decide_eq_true c
        rw [drop_consG l0 [] x.toNat (by omega)] at H
        replace H : ((code_Check.f k (rd_L5 l0 x)).bind fun e => if e = 0 then (if acc.length + (codeB (rd_L5 l0 x)).length < 140737488355328 then shape_wr k (acc ++ codeB (rd_L5 l0 x)) (l0.drop (x.toNat + 1)) else none) else some ([], 1)) = some (r1, r2) := H
        obtain ⟨ad, A3, c3, e3, hx0, hl3, hi3⟩ := at_L5 HR0.out x (by omega) (by omega)
        cases e3
        replace hx0 := bl_ ⟨HO.out.below⟩ hx0
        have p_ := eq_true (show 0 ≤ x by omega)
        have q_ := eq_true c
        generalize rd_L5 l0 x = s at *
        obtain ⟨t1, A1, H⟩ := bd_ H
        by_cases c2 : t1 = 0
        · rw [if_pos c2] at H
          have c1b0 : (t1 == 0) = true := beq_iff_eq.mpr c2
          have c1b1 : (t1 != 0) = false := bne_eq_false_iff_eq.mpr c2
          by_cases c4 : acc.length + (codeB s).length < 140737488355328
          · rw [if_pos c4] at H
            go_wp2_with (first
              | ((with_reducible refine gate_callee (f := 21) rfl ?_); refine goesL_ (some 23) rfl rfl Try.func21 (by kernel_rfl) rfl #[.slice A3 s.length c3] rfl mp_ ?_; refine (code_Check.calls k A3 c3 s t1 _ (Kd.C_below hi3 HO.out.below) hl3 A1.out).mono ?_; rintro e w4 ⟨rfl, hb⟩; refine ⟨_, rfl, ?_⟩; have HO4 := ak (HO.out.on hb); clear hb)
              | ((with_reducible refine gate_callee (f := 24) rfl ?_); refine goesL_ (some 27) rfl rfl Try.func24 (by kernel_rfl) rfl #[.pointer (some ⟨gb, 0, none⟩), .slice A3 s.length c3] rfl mp_ ?_; refine (out_steps gb A3 c3 s _ _ w _ hi3 hl3 HO4.out GB.out c4).mono ?_; rintro e w5 ⟨rfl, v5, h5, hG5⟩; refine ⟨_, rfl, ?_⟩; have HO5 := ak h5; clear h5 hG5))
            go_roundg k1
            case measure => omega
            case rel =>
              refine ⟨x + 1, _, _, ?_, ⟨by omega⟩, ⟨?_⟩, HO5⟩
              · first | rfl | rw [show wrap64 (x + 1) = x + 1 by unfold wrap64; omega]
              · rw [show (x + 1).toNat = x.toNat + 1 by omega]
                exact H
          · rw [if_neg c4] at H
            exact absurd H (by simp)
        · rw [if_neg c2] at H
          have c1b0 : (t1 == 0) = false := beq_eq_false_iff_ne.mpr c2
          have c1b1 : (t1 != 0) = true := bne_iff_ne.mpr c2
          simp only [Option.some.injEq, Prod.mk.injEq] at H
          obtain ⟨rfl, rfl⟩ := H
          go_wp2_with ((with_reducible refine gate_callee (f := 21) rfl ?_); refine goesL_ (some 23) rfl rfl Try.func21 (by kernel_rfl) rfl #[.slice A3 s.length c3] rfl mp_ ?_; refine (code_Check.calls k A3 c3 s t1 _ (Kd.C_below hi3 HO.out.below) hl3 A1.out).mono ?_; rintro e w4 ⟨rfl, hb⟩; refine ⟨_, rfl, ?_⟩; have HO4 := ak (HO.out.on hb); clear hb)
          go_ret2
          exact ⟨_, rfl, Kd.R_nil _ _ _ _ _, HO4.out.below⟩
      · have c_ : decide (x < (l0.length : Int)) = false := decide_eq_false c
        rw [List.drop_of_length_le (by omega)] at H
        simp only [shape_wr, Option.some.injEq, Prod.mk.injEq] at H
        obtain ⟨rfl, rfl⟩ := H
        obtain ⟨A3, c3, e3⟩ := Kd.R_slice HO.out.row
        subst e3
        obtain ⟨hz0, hf0⟩ := bz1_ (ak HO.out.blk)
        go_wp2
        go_ret2
        exact ⟨_, rfl, HO.out.row, HO.out.below⟩
end Go.Proofs.Ytpeblomhhofhkaa.H
