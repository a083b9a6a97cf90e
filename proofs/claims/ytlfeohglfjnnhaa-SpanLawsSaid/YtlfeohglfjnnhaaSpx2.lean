-- PRINTED by print.py (a twelfth state) out of the translation. Not trusted: Lean checks it.
import Derived.Test.YtlfeohglfjnnhaaSpx0
import Derived.Test.YtlfeohglfjnnhaaSpx1
namespace Go.Proofs.Ytlfeohglfjnnhaa.Sp
open Go.Proofs.Ytlfeohglfjnnhaa.Ho
open Go.RowKit Go.Proofs.YtlfeohglfjnnhaaW.PrintWords Go.Proofs.YtlfeohglfjnnhaaW.PrintLast Go.Proofs.YtlfeohglfjnnhaaW.PrintMore
attribute [local go_sem] max2_int min2_int max_two min_two max_three min_three max_four min_four   -- for this text's walks alone
set_option linter.unusedVariables false
set_option linter.unusedSimpArgs false

/-! ### handshakerlaw01_SpanLaws: function 4 -/
def handshakerlaw01_SpanLaws.j0 : Nat → Int → Int → Int → Bool → Option (Bool)
  | 0, _, _, _, _ => none
  | k + 1, x0, x1, x2, x48 => if x48 = true then (some false) else ((span_Add.f x1 x2).bind fun t130 => ((span_Mul.f x0 t130).bind fun t131 => ((span_Mul.f x0 x1).bind fun t132 => ((span_Mul.f x0 x2).bind fun t133 => ((span_Add.f t132 t133).bind fun t134 => (if t131 = t134 then ((span_Add.f x0 x1).bind fun t135 => ((span_Sub.f t135 x1).bind fun t136 => ((span_Wrap.f x0).bind fun t137 => (if t136 = t137 then ((handshakerlaw01_awake.f).bind fun t138 => (some t138)) else (some false))))) else (some false)))))))
def handshakerlaw01_SpanLaws.f (k : Nat) (a0 : Int) (a1 : Int) (a2 : Int) : Option (Bool) := (span_Add.f a0 a1).bind fun t118 => ((span_Add.f a1 a0).bind fun t119 => (if t118 = t119 then ((span_Mul.f a0 a1).bind fun t120 => ((span_Mul.f a1 a0).bind fun t121 => (if t120 = t121 then ((span_Add.f a0 a1).bind fun t122 => ((span_Add.f t122 a2).bind fun t123 => ((span_Add.f a1 a2).bind fun t124 => ((span_Add.f a0 t124).bind fun t125 => (if t123 = t125 then ((span_Mul.f a0 a1).bind fun t126 => ((span_Mul.f t126 a2).bind fun t127 => ((span_Mul.f a1 a2).bind fun t128 => ((span_Mul.f a0 t128).bind fun t129 => (handshakerlaw01_SpanLaws.j0 k a0 a1 a2 (t127 != t129)))))) else (handshakerlaw01_SpanLaws.j0 k a0 a1 a2 true)))))) else (handshakerlaw01_SpanLaws.j0 k a0 a1 a2 true)))) else (handshakerlaw01_SpanLaws.j0 k a0 a1 a2 true)))
theorem handshakerlaw01_SpanLaws.mono_l : ∀ k, (∀ y0 y1 y2 y3, LeO (handshakerlaw01_SpanLaws.j0 k y0 y1 y2 y3) (handshakerlaw01_SpanLaws.j0 (k + 1) y0 y1 y2 y3))
  | 0 => fun _ _ _ _ r h => by simp [handshakerlaw01_SpanLaws.j0] at h
  | k + 1 => by
    have ih0 := handshakerlaw01_SpanLaws.mono_l k
    · intro y0 y1 y2 y3
      unfold handshakerlaw01_SpanLaws.j0
      repeat' first
      | (with_reducible exact ih0 _ _ _ _)
      | (with_reducible exact LeO.refl _)
      | (with_reducible exact LeO.none _)
      | (with_reducible refine LeO.ite ?_ ?_)
      | (with_reducible refine LeO.bind ?_ (fun _ => ?_))
      | exact ih0 _ _ _ _
      | exact LeO.none _
      | refine LeO.ite ?_ ?_
      | refine LeO.bind ?_ (fun _ => ?_)
theorem handshakerlaw01_SpanLaws.mono : ∀ a0 a1 a2 k, LeO (handshakerlaw01_SpanLaws.f k a0 a1 a2) (handshakerlaw01_SpanLaws.f (k + 1) a0 a1 a2) := by
  intro a0 a1 a2 k
  have ih0 := handshakerlaw01_SpanLaws.mono_l k
  unfold handshakerlaw01_SpanLaws.f
  repeat' first
      | (with_reducible exact ih0 _ _ _ _)
      | (with_reducible exact LeO.refl _)
      | (with_reducible exact LeO.none _)
      | (with_reducible refine LeO.ite ?_ ?_)
      | (with_reducible refine LeO.bind ?_ (fun _ => ?_))
      | exact ih0 _ _ _ _
      | exact LeO.none _
      | refine LeO.ite ?_ ?_
      | refine LeO.bind ?_ (fun _ => ?_)
set_option maxHeartbeats 8000000 in
set_option maxRecDepth 100000 in
theorem handshakerlaw01_SpanLaws.calls (k : Nat) (a0 : Int) (a1 : Int) (a2 : Int) (r : Bool) (w : World) (HT : Aside0 (r = true)) (h : handshakerlaw01_SpanLaws.f k a0 a1 a2 = some r) :
    Calls Try.prog 4 #[.int .i64 a0, .int .i64 a1, .int .i64 a2] w fun e w' => e = .returned (.bool r) ∧ Drawn0 w w' := by
  have H : ((span_Add.f a0 a1).bind fun t118 => ((span_Add.f a1 a0).bind fun t119 => (if t118 = t119 then ((span_Mul.f a0 a1).bind fun t120 => ((span_Mul.f a1 a0).bind fun t121 => (if t120 = t121 then ((span_Add.f a0 a1).bind fun t122 => ((span_Add.f t122 a2).bind fun t123 => ((span_Add.f a1 a2).bind fun t124 => ((span_Add.f a0 t124).bind fun t125 => (if t123 = t125 then ((span_Mul.f a0 a1).bind fun t126 => ((span_Mul.f t126 a2).bind fun t127 => ((span_Mul.f a1 a2).bind fun t128 => ((span_Mul.f a0 t128).bind fun t129 => (handshakerlaw01_SpanLaws.j0 k a0 a1 a2 (t127 != t129)))))) else (handshakerlaw01_SpanLaws.j0 k a0 a1 a2 true)))))) else (handshakerlaw01_SpanLaws.j0 k a0 a1 a2 true)))) else (handshakerlaw01_SpanLaws.j0 k a0 a1 a2 true)))) = some r := h
  clear h
  have HC4 := Aside0.mk H
  clear H
  go_enter Try.func4, Try.ntmps4
  go_upto_region 1 with (fail)
  go_cut [48] (fun v48 wc => ∃ (kq : Nat) (x48_3 : Bool), v48 = .bool x48_3 ∧ Aside0 (handshakerlaw01_SpanLaws.j0 kq a0 a1 a2 x48_3 = some r) ∧ Aside0 (kq ≤ k) ∧ Drawn0 w wc)
  case first =>
    have H := HC4.out
    clear HC4
    replace H := Option.bind_eq_some_iff.mp H
    obtain ⟨t118, A50, H⟩ := H
    replace H : ((span_Add.f a1 a0).bind fun t119 => (if t118 = t119 then ((span_Mul.f a0 a1).bind fun t120 => ((span_Mul.f a1 a0).bind fun t121 => (if t120 = t121 then ((span_Add.f a0 a1).bind fun t122 => ((span_Add.f t122 a2).bind fun t123 => ((span_Add.f a1 a2).bind fun t124 => ((span_Add.f a0 t124).bind fun t125 => (if t123 = t125 then ((span_Mul.f a0 a1).bind fun t126 => ((span_Mul.f t126 a2).bind fun t127 => ((span_Mul.f a1 a2).bind fun t128 => ((span_Mul.f a0 t128).bind fun t129 => (handshakerlaw01_SpanLaws.j0 k a0 a1 a2 (t127 != t129)))))) else (handshakerlaw01_SpanLaws.j0 k a0 a1 a2 true)))))) else (handshakerlaw01_SpanLaws.j0 k a0 a1 a2 true)))) else (handshakerlaw01_SpanLaws.j0 k a0 a1 a2 true))) = some r := H
    have A5 := Aside0.mk A50
    clear A50
    replace H := Option.bind_eq_some_iff.mp H
    obtain ⟨t119, A60, H⟩ := H
    replace H : (if t118 = t119 then ((span_Mul.f a0 a1).bind fun t120 => ((span_Mul.f a1 a0).bind fun t121 => (if t120 = t121 then ((span_Add.f a0 a1).bind fun t122 => ((span_Add.f t122 a2).bind fun t123 => ((span_Add.f a1 a2).bind fun t124 => ((span_Add.f a0 t124).bind fun t125 => (if t123 = t125 then ((span_Mul.f a0 a1).bind fun t126 => ((span_Mul.f t126 a2).bind fun t127 => ((span_Mul.f a1 a2).bind fun t128 => ((span_Mul.f a0 t128).bind fun t129 => (handshakerlaw01_SpanLaws.j0 k a0 a1 a2 (t127 != t129)))))) else (handshakerlaw01_SpanLaws.j0 k a0 a1 a2 true)))))) else (handshakerlaw01_SpanLaws.j0 k a0 a1 a2 true)))) else (handshakerlaw01_SpanLaws.j0 k a0 a1 a2 true)) = some r := H
    have A6 := Aside0.mk A60
    clear A60
    by_cases c7 : t118 = t119
    · rw [if_pos c7] at H
      have c7b0 : (t118 == t119) = true := beq_iff_eq.mpr c7
      have c7b1 : (t118 != t119) = false := bne_eq_false_iff_eq.mpr c7
      clear c7
      (first | rw [c7b0] | (simp only [i64_w, i32_w]; rw [c7b0]) | skip)
      replace H := Option.bind_eq_some_iff.mp H
      obtain ⟨t120, A80, H⟩ := H
      replace H : ((span_Mul.f a1 a0).bind fun t121 => (if t120 = t121 then ((span_Add.f a0 a1).bind fun t122 => ((span_Add.f t122 a2).bind fun t123 => ((span_Add.f a1 a2).bind fun t124 => ((span_Add.f a0 t124).bind fun t125 => (if t123 = t125 then ((span_Mul.f a0 a1).bind fun t126 => ((span_Mul.f t126 a2).bind fun t127 => ((span_Mul.f a1 a2).bind fun t128 => ((span_Mul.f a0 t128).bind fun t129 => (handshakerlaw01_SpanLaws.j0 k a0 a1 a2 (t127 != t129)))))) else (handshakerlaw01_SpanLaws.j0 k a0 a1 a2 true)))))) else (handshakerlaw01_SpanLaws.j0 k a0 a1 a2 true))) = some r := H
      have A8 := Aside0.mk A80
      clear A80
      replace H := Option.bind_eq_some_iff.mp H
      obtain ⟨t121, A90, H⟩ := H
      replace H : (if t120 = t121 then ((span_Add.f a0 a1).bind fun t122 => ((span_Add.f t122 a2).bind fun t123 => ((span_Add.f a1 a2).bind fun t124 => ((span_Add.f a0 t124).bind fun t125 => (if t123 = t125 then ((span_Mul.f a0 a1).bind fun t126 => ((span_Mul.f t126 a2).bind fun t127 => ((span_Mul.f a1 a2).bind fun t128 => ((span_Mul.f a0 t128).bind fun t129 => (handshakerlaw01_SpanLaws.j0 k a0 a1 a2 (t127 != t129)))))) else (handshakerlaw01_SpanLaws.j0 k a0 a1 a2 true)))))) else (handshakerlaw01_SpanLaws.j0 k a0 a1 a2 true)) = some r := H
      have A9 := Aside0.mk A90
      clear A90
      by_cases c10 : t120 = t121
      · rw [if_pos c10] at H
        have c10b0 : (t120 == t121) = true := beq_iff_eq.mpr c10
        have c10b1 : (t120 != t121) = false := bne_eq_false_iff_eq.mpr c10
        clear c10
        replace H := Option.bind_eq_some_iff.mp H
        obtain ⟨t122, A110, H⟩ := H
        replace H : ((span_Add.f t122 a2).bind fun t123 => ((span_Add.f a1 a2).bind fun t124 => ((span_Add.f a0 t124).bind fun t125 => (if t123 = t125 then ((span_Mul.f a0 a1).bind fun t126 => ((span_Mul.f t126 a2).bind fun t127 => ((span_Mul.f a1 a2).bind fun t128 => ((span_Mul.f a0 t128).bind fun t129 => (handshakerlaw01_SpanLaws.j0 k a0 a1 a2 (t127 != t129)))))) else (handshakerlaw01_SpanLaws.j0 k a0 a1 a2 true))))) = some r := H
        have A11 := Aside0.mk A110
        clear A110
        replace H := Option.bind_eq_some_iff.mp H
        obtain ⟨t123, A120, H⟩ := H
        replace H : ((span_Add.f a1 a2).bind fun t124 => ((span_Add.f a0 t124).bind fun t125 => (if t123 = t125 then ((span_Mul.f a0 a1).bind fun t126 => ((span_Mul.f t126 a2).bind fun t127 => ((span_Mul.f a1 a2).bind fun t128 => ((span_Mul.f a0 t128).bind fun t129 => (handshakerlaw01_SpanLaws.j0 k a0 a1 a2 (t127 != t129)))))) else (handshakerlaw01_SpanLaws.j0 k a0 a1 a2 true)))) = some r := H
        have A12 := Aside0.mk A120
        clear A120
        replace H := Option.bind_eq_some_iff.mp H
        obtain ⟨t124, A130, H⟩ := H
        replace H : ((span_Add.f a0 t124).bind fun t125 => (if t123 = t125 then ((span_Mul.f a0 a1).bind fun t126 => ((span_Mul.f t126 a2).bind fun t127 => ((span_Mul.f a1 a2).bind fun t128 => ((span_Mul.f a0 t128).bind fun t129 => (handshakerlaw01_SpanLaws.j0 k a0 a1 a2 (t127 != t129)))))) else (handshakerlaw01_SpanLaws.j0 k a0 a1 a2 true))) = some r := H
        have A13 := Aside0.mk A130
        clear A130
        replace H := Option.bind_eq_some_iff.mp H
        obtain ⟨t125, A140, H⟩ := H
        replace H : (if t123 = t125 then ((span_Mul.f a0 a1).bind fun t126 => ((span_Mul.f t126 a2).bind fun t127 => ((span_Mul.f a1 a2).bind fun t128 => ((span_Mul.f a0 t128).bind fun t129 => (handshakerlaw01_SpanLaws.j0 k a0 a1 a2 (t127 != t129)))))) else (handshakerlaw01_SpanLaws.j0 k a0 a1 a2 true)) = some r := H
        have A14 := Aside0.mk A140
        clear A140
        by_cases c15 : t123 = t125
        · rw [if_pos c15] at H
          have c15b0 : (t123 == t125) = true := beq_iff_eq.mpr c15
          have c15b1 : (t123 != t125) = false := bne_eq_false_iff_eq.mpr c15
          clear c15
          replace H := Option.bind_eq_some_iff.mp H
          obtain ⟨t126, A160, H⟩ := H
          replace H : ((span_Mul.f t126 a2).bind fun t127 => ((span_Mul.f a1 a2).bind fun t128 => ((span_Mul.f a0 t128).bind fun t129 => (handshakerlaw01_SpanLaws.j0 k a0 a1 a2 (t127 != t129))))) = some r := H
          have A16 := Aside0.mk A160
          clear A160
          replace H := Option.bind_eq_some_iff.mp H
          obtain ⟨t127, A170, H⟩ := H
          replace H : ((span_Mul.f a1 a2).bind fun t128 => ((span_Mul.f a0 t128).bind fun t129 => (handshakerlaw01_SpanLaws.j0 k a0 a1 a2 (t127 != t129)))) = some r := H
          have A17 := Aside0.mk A170
          clear A170
          replace H := Option.bind_eq_some_iff.mp H
          obtain ⟨t128, A180, H⟩ := H
          replace H : ((span_Mul.f a0 t128).bind fun t129 => (handshakerlaw01_SpanLaws.j0 k a0 a1 a2 (t127 != t129))) = some r := H
          have A18 := Aside0.mk A180
          clear A180
          replace H := Option.bind_eq_some_iff.mp H
          obtain ⟨t129, A190, H⟩ := H
          replace H : (handshakerlaw01_SpanLaws.j0 k a0 a1 a2 (t127 != t129)) = some r := H
          have A19 := Aside0.mk A190
          clear A190
          have H' := Aside0.mk H
          clear H
          go_wp2_with (first | ((with_reducible refine gate_callee (f := 19) rfl ?_); refine goesL_ (some 9) rfl rfl Try.func19 (by kernel_rfl) rfl #[.int .i64 a0, .int .i64 a1] rfl (by (try simp only [List.map_toArray, List.map_cons, List.map_nil]); first | done | rfl | (simp only [List.length_drop, List.length_take]; rfl)) ?_; (with_reducible refine (span_Add.calls a0 a1 t118 _ A5.out).mono ?_); rintro e w' ⟨rfl, ⟨nd, rfl⟩⟩; refine ⟨_, rfl, ?_⟩) | ((with_reducible refine gate_callee (f := 19) rfl ?_); refine goesL_ (some 12) rfl rfl Try.func19 (by kernel_rfl) rfl #[.int .i64 a1, .int .i64 a0] rfl (by (try simp only [List.map_toArray, List.map_cons, List.map_nil]); first | done | rfl | (simp only [List.length_drop, List.length_take]; rfl)) ?_; (with_reducible refine (span_Add.calls a1 a0 t119 _ A6.out).mono ?_); rintro e w' ⟨rfl, ⟨nd, rfl⟩⟩; refine ⟨_, rfl, ?_⟩) | ((with_reducible refine gate_callee (f := 21) rfl ?_); refine goesG_ (some 17) rfl Try.func21 (by kernel_rfl) rfl #[.int .i64 a0, .int .i64 a1] rfl (by first | rfl | (go_simp; done) | (simp [Region.wanted, yielded]; done)) (by (try simp only [List.map_toArray, List.map_cons, List.map_nil]); first | done | rfl | (simp only [List.length_drop, List.length_take]; rfl)) ?_; (with_reducible refine (span_Mul.calls a0 a1 t120 _ A8.out).mono ?_); rintro e w' ⟨rfl, ⟨nd, rfl⟩⟩; refine ⟨_, rfl, ?_⟩) | ((with_reducible refine gate_callee (f := 21) rfl ?_); refine goesG_ (some 20) rfl Try.func21 (by kernel_rfl) rfl #[.int .i64 a1, .int .i64 a0] rfl (by first | rfl | (go_simp; done) | (simp [Region.wanted, yielded]; done)) (by (try simp only [List.map_toArray, List.map_cons, List.map_nil]); first | done | rfl | (simp only [List.length_drop, List.length_take]; rfl)) ?_; (with_reducible refine (span_Mul.calls a1 a0 t121 _ A9.out).mono ?_); rintro e w' ⟨rfl, ⟨nd, rfl⟩⟩; refine ⟨_, rfl, ?_⟩) | ((with_reducible refine gate_callee (f := 19) rfl ?_); refine goesG_ (some 26) rfl Try.func19 (by kernel_rfl) rfl #[.int .i64 a0, .int .i64 a1] rfl (by first | rfl | (go_simp; done) | (simp [Region.wanted, yielded]; done)) (by (try simp only [List.map_toArray, List.map_cons, List.map_nil]); first | done | rfl | (simp only [List.length_drop, List.length_take]; rfl)) ?_; (with_reducible refine (span_Add.calls a0 a1 t122 _ A11.out).mono ?_); rintro e w' ⟨rfl, ⟨nd, rfl⟩⟩; refine ⟨_, rfl, ?_⟩) | ((with_reducible refine gate_callee (f := 19) rfl ?_); refine goesG_ (some 28) rfl Try.func19 (by kernel_rfl) rfl #[.int .i64 t122, .int .i64 a2] rfl (by first | rfl | (go_simp; done) | (simp [Region.wanted, yielded]; done)) (by (try simp only [List.map_toArray, List.map_cons, List.map_nil]); first | done | rfl | (simp only [List.length_drop, List.length_take]; rfl)) ?_; (with_reducible refine (span_Add.calls t122 a2 t123 _ A12.out).mono ?_); rintro e w' ⟨rfl, ⟨nd, rfl⟩⟩; refine ⟨_, rfl, ?_⟩) | ((with_reducible refine gate_callee (f := 19) rfl ?_); refine goesG_ (some 32) rfl Try.func19 (by kernel_rfl) rfl #[.int .i64 a1, .int .i64 a2] rfl (by first | rfl | (go_simp; done) | (simp [Region.wanted, yielded]; done)) (by (try simp only [List.map_toArray, List.map_cons, List.map_nil]); first | done | rfl | (simp only [List.length_drop, List.length_take]; rfl)) ?_; (with_reducible refine (span_Add.calls a1 a2 t124 _ A13.out).mono ?_); rintro e w' ⟨rfl, ⟨nd, rfl⟩⟩; refine ⟨_, rfl, ?_⟩) | ((with_reducible refine gate_callee (f := 19) rfl ?_); refine goesG_ (some 33) rfl Try.func19 (by kernel_rfl) rfl #[.int .i64 a0, .int .i64 t124] rfl (by first | rfl | (go_simp; done) | (simp [Region.wanted, yielded]; done)) (by (try simp only [List.map_toArray, List.map_cons, List.map_nil]); first | done | rfl | (simp only [List.length_drop, List.length_take]; rfl)) ?_; (with_reducible refine (span_Add.calls a0 t124 t125 _ A14.out).mono ?_); rintro e w' ⟨rfl, ⟨nd, rfl⟩⟩; refine ⟨_, rfl, ?_⟩) | ((with_reducible refine gate_callee (f := 21) rfl ?_); refine goesG_ (some 39) rfl Try.func21 (by kernel_rfl) rfl #[.int .i64 a0, .int .i64 a1] rfl (by first | rfl | (go_simp; done) | (simp [Region.wanted, yielded]; done)) (by (try simp only [List.map_toArray, List.map_cons, List.map_nil]); first | done | rfl | (simp only [List.length_drop, List.length_take]; rfl)) ?_; (with_reducible refine (span_Mul.calls a0 a1 t126 _ A16.out).mono ?_); rintro e w' ⟨rfl, ⟨nd, rfl⟩⟩; refine ⟨_, rfl, ?_⟩) | ((with_reducible refine gate_callee (f := 21) rfl ?_); refine goesG_ (some 41) rfl Try.func21 (by kernel_rfl) rfl #[.int .i64 t126, .int .i64 a2] rfl (by first | rfl | (go_simp; done) | (simp [Region.wanted, yielded]; done)) (by (try simp only [List.map_toArray, List.map_cons, List.map_nil]); first | done | rfl | (simp only [List.length_drop, List.length_take]; rfl)) ?_; (with_reducible refine (span_Mul.calls t126 a2 t127 _ A17.out).mono ?_); rintro e w' ⟨rfl, ⟨nd, rfl⟩⟩; refine ⟨_, rfl, ?_⟩) | ((with_reducible refine gate_callee (f := 21) rfl ?_); refine goesG_ (some 45) rfl Try.func21 (by kernel_rfl) rfl #[.int .i64 a1, .int .i64 a2] rfl (by first | rfl | (go_simp; done) | (simp [Region.wanted, yielded]; done)) (by (try simp only [List.map_toArray, List.map_cons, List.map_nil]); first | done | rfl | (simp only [List.length_drop, List.length_take]; rfl)) ?_; (with_reducible refine (span_Mul.calls a1 a2 t128 _ A18.out).mono ?_); rintro e w' ⟨rfl, ⟨nd, rfl⟩⟩; refine ⟨_, rfl, ?_⟩) | ((with_reducible refine gate_callee (f := 21) rfl ?_); refine goesG_ (some 46) rfl Try.func21 (by kernel_rfl) rfl #[.int .i64 a0, .int .i64 t128] rfl (by first | rfl | (go_simp; done) | (simp [Region.wanted, yielded]; done)) (by (try simp only [List.map_toArray, List.map_cons, List.map_nil]); first | done | rfl | (simp only [List.length_drop, List.length_take]; rfl)) ?_; (with_reducible refine (span_Mul.calls a0 t128 t129 _ A19.out).mono ?_); rintro e w' ⟨rfl, ⟨nd, rfl⟩⟩; refine ⟨_, rfl, ?_⟩))
          go_meet
          case rel => exact ⟨_, ((t127 != t129)), (by first | rfl | (simp; done) | (simp [*]; done)), H', ⟨by first | omega | exact Nat.le_refl _⟩, by repeat (first | exact Drawn0.refl _ | apply Drawn0.step)⟩
        · rw [if_neg c15] at H
          have c15b0 : (t123 == t125) = false := beq_eq_false_iff_ne.mpr c15
          have c15b1 : (t123 != t125) = true := bne_iff_ne.mpr c15
          have H' := Aside0.mk H
          clear H
          go_wp2_with (first | ((with_reducible refine gate_callee (f := 19) rfl ?_); refine goesL_ (some 9) rfl rfl Try.func19 (by kernel_rfl) rfl #[.int .i64 a0, .int .i64 a1] rfl (by (try simp only [List.map_toArray, List.map_cons, List.map_nil]); first | done | rfl | (simp only [List.length_drop, List.length_take]; rfl)) ?_; (with_reducible refine (span_Add.calls a0 a1 t118 _ A5.out).mono ?_); rintro e w' ⟨rfl, ⟨nd, rfl⟩⟩; refine ⟨_, rfl, ?_⟩) | ((with_reducible refine gate_callee (f := 19) rfl ?_); refine goesL_ (some 12) rfl rfl Try.func19 (by kernel_rfl) rfl #[.int .i64 a1, .int .i64 a0] rfl (by (try simp only [List.map_toArray, List.map_cons, List.map_nil]); first | done | rfl | (simp only [List.length_drop, List.length_take]; rfl)) ?_; (with_reducible refine (span_Add.calls a1 a0 t119 _ A6.out).mono ?_); rintro e w' ⟨rfl, ⟨nd, rfl⟩⟩; refine ⟨_, rfl, ?_⟩) | ((with_reducible refine gate_callee (f := 21) rfl ?_); refine goesG_ (some 17) rfl Try.func21 (by kernel_rfl) rfl #[.int .i64 a0, .int .i64 a1] rfl (by first | rfl | (go_simp; done) | (simp [Region.wanted, yielded]; done)) (by (try simp only [List.map_toArray, List.map_cons, List.map_nil]); first | done | rfl | (simp only [List.length_drop, List.length_take]; rfl)) ?_; (with_reducible refine (span_Mul.calls a0 a1 t120 _ A8.out).mono ?_); rintro e w' ⟨rfl, ⟨nd, rfl⟩⟩; refine ⟨_, rfl, ?_⟩) | ((with_reducible refine gate_callee (f := 21) rfl ?_); refine goesG_ (some 20) rfl Try.func21 (by kernel_rfl) rfl #[.int .i64 a1, .int .i64 a0] rfl (by first | rfl | (go_simp; done) | (simp [Region.wanted, yielded]; done)) (by (try simp only [List.map_toArray, List.map_cons, List.map_nil]); first | done | rfl | (simp only [List.length_drop, List.length_take]; rfl)) ?_; (with_reducible refine (span_Mul.calls a1 a0 t121 _ A9.out).mono ?_); rintro e w' ⟨rfl, ⟨nd, rfl⟩⟩; refine ⟨_, rfl, ?_⟩) | ((with_reducible refine gate_callee (f := 19) rfl ?_); refine goesG_ (some 26) rfl Try.func19 (by kernel_rfl) rfl #[.int .i64 a0, .int .i64 a1] rfl (by first | rfl | (go_simp; done) | (simp [Region.wanted, yielded]; done)) (by (try simp only [List.map_toArray, List.map_cons, List.map_nil]); first | done | rfl | (simp only [List.length_drop, List.length_take]; rfl)) ?_; (with_reducible refine (span_Add.calls a0 a1 t122 _ A11.out).mono ?_); rintro e w' ⟨rfl, ⟨nd, rfl⟩⟩; refine ⟨_, rfl, ?_⟩) | ((with_reducible refine gate_callee (f := 19) rfl ?_); refine goesG_ (some 28) rfl Try.func19 (by kernel_rfl) rfl #[.int .i64 t122, .int .i64 a2] rfl (by first | rfl | (go_simp; done) | (simp [Region.wanted, yielded]; done)) (by (try simp only [List.map_toArray, List.map_cons, List.map_nil]); first | done | rfl | (simp only [List.length_drop, List.length_take]; rfl)) ?_; (with_reducible refine (span_Add.calls t122 a2 t123 _ A12.out).mono ?_); rintro e w' ⟨rfl, ⟨nd, rfl⟩⟩; refine ⟨_, rfl, ?_⟩) | ((with_reducible refine gate_callee (f := 19) rfl ?_); refine goesG_ (some 32) rfl Try.func19 (by kernel_rfl) rfl #[.int .i64 a1, .int .i64 a2] rfl (by first | rfl | (go_simp; done) | (simp [Region.wanted, yielded]; done)) (by (try simp only [List.map_toArray, List.map_cons, List.map_nil]); first | done | rfl | (simp only [List.length_drop, List.length_take]; rfl)) ?_; (with_reducible refine (span_Add.calls a1 a2 t124 _ A13.out).mono ?_); rintro e w' ⟨rfl, ⟨nd, rfl⟩⟩; refine ⟨_, rfl, ?_⟩) | ((with_reducible refine gate_callee (f := 19) rfl ?_); refine goesG_ (some 33) rfl Try.func19 (by kernel_rfl) rfl #[.int .i64 a0, .int .i64 t124] rfl (by first | rfl | (go_simp; done) | (simp [Region.wanted, yielded]; done)) (by (try simp only [List.map_toArray, List.map_cons, List.map_nil]); first | done | rfl | (simp only [List.length_drop, List.length_take]; rfl)) ?_; (with_reducible refine (span_Add.calls a0 t124 t125 _ A14.out).mono ?_); rintro e w' ⟨rfl, ⟨nd, rfl⟩⟩; refine ⟨_, rfl, ?_⟩))
          go_meet
          case rel => exact ⟨_, (true), (by first | rfl | (simp; done) | (simp [*]; done)), H', ⟨by first | omega | exact Nat.le_refl _⟩, by repeat (first | exact Drawn0.refl _ | apply Drawn0.step)⟩
      · rw [if_neg c10] at H
        have c10b0 : (t120 == t121) = false := beq_eq_false_iff_ne.mpr c10
        have c10b1 : (t120 != t121) = true := bne_iff_ne.mpr c10
        have H' := Aside0.mk H
        clear H
        go_wp2_with (first | ((with_reducible refine gate_callee (f := 19) rfl ?_); refine goesL_ (some 9) rfl rfl Try.func19 (by kernel_rfl) rfl #[.int .i64 a0, .int .i64 a1] rfl (by (try simp only [List.map_toArray, List.map_cons, List.map_nil]); first | done | rfl | (simp only [List.length_drop, List.length_take]; rfl)) ?_; (with_reducible refine (span_Add.calls a0 a1 t118 _ A5.out).mono ?_); rintro e w' ⟨rfl, ⟨nd, rfl⟩⟩; refine ⟨_, rfl, ?_⟩) | ((with_reducible refine gate_callee (f := 19) rfl ?_); refine goesL_ (some 12) rfl rfl Try.func19 (by kernel_rfl) rfl #[.int .i64 a1, .int .i64 a0] rfl (by (try simp only [List.map_toArray, List.map_cons, List.map_nil]); first | done | rfl | (simp only [List.length_drop, List.length_take]; rfl)) ?_; (with_reducible refine (span_Add.calls a1 a0 t119 _ A6.out).mono ?_); rintro e w' ⟨rfl, ⟨nd, rfl⟩⟩; refine ⟨_, rfl, ?_⟩) | ((with_reducible refine gate_callee (f := 21) rfl ?_); refine goesG_ (some 17) rfl Try.func21 (by kernel_rfl) rfl #[.int .i64 a0, .int .i64 a1] rfl (by first | rfl | (go_simp; done) | (simp [Region.wanted, yielded]; done)) (by (try simp only [List.map_toArray, List.map_cons, List.map_nil]); first | done | rfl | (simp only [List.length_drop, List.length_take]; rfl)) ?_; (with_reducible refine (span_Mul.calls a0 a1 t120 _ A8.out).mono ?_); rintro e w' ⟨rfl, ⟨nd, rfl⟩⟩; refine ⟨_, rfl, ?_⟩) | ((with_reducible refine gate_callee (f := 21) rfl ?_); refine goesG_ (some 20) rfl Try.func21 (by kernel_rfl) rfl #[.int .i64 a1, .int .i64 a0] rfl (by first | rfl | (go_simp; done) | (simp [Region.wanted, yielded]; done)) (by (try simp only [List.map_toArray, List.map_cons, List.map_nil]); first | done | rfl | (simp only [List.length_drop, List.length_take]; rfl)) ?_; (with_reducible refine (span_Mul.calls a1 a0 t121 _ A9.out).mono ?_); rintro e w' ⟨rfl, ⟨nd, rfl⟩⟩; refine ⟨_, rfl, ?_⟩))
        go_meet
        case rel => exact ⟨_, (true), (by first | rfl | (simp; done) | (simp [*]; done)), H', ⟨by first | omega | exact Nat.le_refl _⟩, by repeat (first | exact Drawn0.refl _ | apply Drawn0.step)⟩
    · rw [if_neg c7] at H
      have c7b0 : (t118 == t119) = false := beq_eq_false_iff_ne.mpr c7
      have c7b1 : (t118 != t119) = true := bne_iff_ne.mpr c7
      (first | rw [c7b0] | (simp only [i64_w, i32_w]; rw [c7b0]) | skip)
      have H' := Aside0.mk H
      clear H
      go_wp2_with (first | ((with_reducible refine gate_callee (f := 19) rfl ?_); refine goesL_ (some 9) rfl rfl Try.func19 (by kernel_rfl) rfl #[.int .i64 a0, .int .i64 a1] rfl (by (try simp only [List.map_toArray, List.map_cons, List.map_nil]); first | done | rfl | (simp only [List.length_drop, List.length_take]; rfl)) ?_; (with_reducible refine (span_Add.calls a0 a1 t118 _ A5.out).mono ?_); rintro e w' ⟨rfl, ⟨nd, rfl⟩⟩; refine ⟨_, rfl, ?_⟩) | ((with_reducible refine gate_callee (f := 19) rfl ?_); refine goesL_ (some 12) rfl rfl Try.func19 (by kernel_rfl) rfl #[.int .i64 a1, .int .i64 a0] rfl (by (try simp only [List.map_toArray, List.map_cons, List.map_nil]); first | done | rfl | (simp only [List.length_drop, List.length_take]; rfl)) ?_; (with_reducible refine (span_Add.calls a1 a0 t119 _ A6.out).mono ?_); rintro e w' ⟨rfl, ⟨nd, rfl⟩⟩; refine ⟨_, rfl, ?_⟩))
      go_meet
      case rel => exact ⟨_, (true), (by first | rfl | (simp; done) | (simp [*]; done)), H', ⟨by first | omega | exact Nat.le_refl _⟩, by repeat (first | exact Drawn0.refl _ | apply Drawn0.step)⟩
  case rest =>
    clear HC4
    try clear c1
    try clear c2
    try clear p2
    try clear c4
    try clear c7
    try clear c7b0
    try clear c7b1
    try clear c10
    try clear c10b0
    try clear c10b1
    try clear c15
    try clear c15b0
    try clear c15b1
    try clear c19
    obtain ⟨kq, x48_3, rfl, HA, HJ3, ⟨mc3, rfl⟩⟩ := hcut
    cases kq with
    | zero => exact absurd HA.out (by simp [handshakerlaw01_SpanLaws.j0])
    | succ kj3 =>
      have H := HA.out
      clear HA
      simp only [handshakerlaw01_SpanLaws.j0] at H
      by_cases c20 : x48_3 = true
      · subst c20
        have H1 : (some false) = some r := by rw [if_pos rfl] at H; exact H
        clear H
        have H := H1
        clear H1
        exact absurd (Option.some.inj H) (by rw [HT.out]; decide)
      · replace c20 := Bool.eq_false_iff.mpr c20
        subst c20
        have H1 : ((span_Add.f a1 a2).bind fun t130 => ((span_Mul.f a0 t130).bind fun t131 => ((span_Mul.f a0 a1).bind fun t132 => ((span_Mul.f a0 a2).bind fun t133 => ((span_Add.f t132 t133).bind fun t134 => (if t131 = t134 then ((span_Add.f a0 a1).bind fun t135 => ((span_Sub.f t135 a1).bind fun t136 => ((span_Wrap.f a0).bind fun t137 => (if t136 = t137 then ((handshakerlaw01_awake.f).bind fun t138 => (some t138)) else (some false))))) else (some false))))))) = some r := by rw [if_neg (show ¬ (false = true) by decide)] at H; exact H
        clear H
        have H := H1
        clear H1
        replace H := Option.bind_eq_some_iff.mp H
        obtain ⟨t130, A210, H⟩ := H
        replace H : ((span_Mul.f a0 t130).bind fun t131 => ((span_Mul.f a0 a1).bind fun t132 => ((span_Mul.f a0 a2).bind fun t133 => ((span_Add.f t132 t133).bind fun t134 => (if t131 = t134 then ((span_Add.f a0 a1).bind fun t135 => ((span_Sub.f t135 a1).bind fun t136 => ((span_Wrap.f a0).bind fun t137 => (if t136 = t137 then ((handshakerlaw01_awake.f).bind fun t138 => (some t138)) else (some false))))) else (some false)))))) = some r := H
        have A21 := Aside0.mk A210
        clear A210
        replace H := Option.bind_eq_some_iff.mp H
        obtain ⟨t131, A220, H⟩ := H
        replace H : ((span_Mul.f a0 a1).bind fun t132 => ((span_Mul.f a0 a2).bind fun t133 => ((span_Add.f t132 t133).bind fun t134 => (if t131 = t134 then ((span_Add.f a0 a1).bind fun t135 => ((span_Sub.f t135 a1).bind fun t136 => ((span_Wrap.f a0).bind fun t137 => (if t136 = t137 then ((handshakerlaw01_awake.f).bind fun t138 => (some t138)) else (some false))))) else (some false))))) = some r := H
        have A22 := Aside0.mk A220
        clear A220
        replace H := Option.bind_eq_some_iff.mp H
        obtain ⟨t132, A230, H⟩ := H
        replace H : ((span_Mul.f a0 a2).bind fun t133 => ((span_Add.f t132 t133).bind fun t134 => (if t131 = t134 then ((span_Add.f a0 a1).bind fun t135 => ((span_Sub.f t135 a1).bind fun t136 => ((span_Wrap.f a0).bind fun t137 => (if t136 = t137 then ((handshakerlaw01_awake.f).bind fun t138 => (some t138)) else (some false))))) else (some false)))) = some r := H
        have A23 := Aside0.mk A230
        clear A230
        replace H := Option.bind_eq_some_iff.mp H
        obtain ⟨t133, A240, H⟩ := H
        replace H : ((span_Add.f t132 t133).bind fun t134 => (if t131 = t134 then ((span_Add.f a0 a1).bind fun t135 => ((span_Sub.f t135 a1).bind fun t136 => ((span_Wrap.f a0).bind fun t137 => (if t136 = t137 then ((handshakerlaw01_awake.f).bind fun t138 => (some t138)) else (some false))))) else (some false))) = some r := H
        have A24 := Aside0.mk A240
        clear A240
        replace H := Option.bind_eq_some_iff.mp H
        obtain ⟨t134, A250, H⟩ := H
        replace H : (if t131 = t134 then ((span_Add.f a0 a1).bind fun t135 => ((span_Sub.f t135 a1).bind fun t136 => ((span_Wrap.f a0).bind fun t137 => (if t136 = t137 then ((handshakerlaw01_awake.f).bind fun t138 => (some t138)) else (some false))))) else (some false)) = some r := H
        have A25 := Aside0.mk A250
        clear A250
        by_cases c26 : t131 = t134
        · rw [if_pos c26] at H
          have c26b0 : (t131 == t134) = true := beq_iff_eq.mpr c26
          have c26b1 : (t131 != t134) = false := bne_eq_false_iff_eq.mpr c26
          clear c26
          replace H := Option.bind_eq_some_iff.mp H
          obtain ⟨t135, A270, H⟩ := H
          replace H : ((span_Sub.f t135 a1).bind fun t136 => ((span_Wrap.f a0).bind fun t137 => (if t136 = t137 then ((handshakerlaw01_awake.f).bind fun t138 => (some t138)) else (some false)))) = some r := H
          have A27 := Aside0.mk A270
          clear A270
          replace H := Option.bind_eq_some_iff.mp H
          obtain ⟨t136, A280, H⟩ := H
          replace H : ((span_Wrap.f a0).bind fun t137 => (if t136 = t137 then ((handshakerlaw01_awake.f).bind fun t138 => (some t138)) else (some false))) = some r := H
          have A28 := Aside0.mk A280
          clear A280
          replace H := Option.bind_eq_some_iff.mp H
          obtain ⟨t137, A290, H⟩ := H
          replace H : (if t136 = t137 then ((handshakerlaw01_awake.f).bind fun t138 => (some t138)) else (some false)) = some r := H
          have A29 := Aside0.mk A290
          clear A290
          by_cases c30 : t136 = t137
          · rw [if_pos c30] at H
            have c30b0 : (t136 == t137) = true := beq_iff_eq.mpr c30
            have c30b1 : (t136 != t137) = false := bne_eq_false_iff_eq.mpr c30
            clear c30
            replace H := Option.bind_eq_some_iff.mp H
            obtain ⟨t138, A310, H⟩ := H
            replace H : (some t138) = some r := H
            have A31 := Aside0.mk A310
            clear A310
            obtain rfl := Option.some.inj H
            go_wp2_with (first | ((with_reducible refine gate_callee (f := 19) rfl ?_); refine goesL_ (some 52) rfl rfl Try.func19 (by kernel_rfl) rfl #[.int .i64 a1, .int .i64 a2] rfl (by (try simp only [List.map_toArray, List.map_cons, List.map_nil]); first | done | rfl | (simp only [List.length_drop, List.length_take]; rfl)) ?_; (with_reducible refine (span_Add.calls a1 a2 t130 _ A21.out).mono ?_); rintro e w' ⟨rfl, ⟨nd, rfl⟩⟩; refine ⟨_, rfl, ?_⟩) | ((with_reducible refine gate_callee (f := 21) rfl ?_); refine goesL_ (some 53) rfl rfl Try.func21 (by kernel_rfl) rfl #[.int .i64 a0, .int .i64 t130] rfl (by (try simp only [List.map_toArray, List.map_cons, List.map_nil]); first | done | rfl | (simp only [List.length_drop, List.length_take]; rfl)) ?_; (with_reducible refine (span_Mul.calls a0 t130 t131 _ A22.out).mono ?_); rintro e w' ⟨rfl, ⟨nd, rfl⟩⟩; refine ⟨_, rfl, ?_⟩) | ((with_reducible refine gate_callee (f := 21) rfl ?_); refine goesL_ (some 56) rfl rfl Try.func21 (by kernel_rfl) rfl #[.int .i64 a0, .int .i64 a1] rfl (by (try simp only [List.map_toArray, List.map_cons, List.map_nil]); first | done | rfl | (simp only [List.length_drop, List.length_take]; rfl)) ?_; (with_reducible refine (span_Mul.calls a0 a1 t132 _ A23.out).mono ?_); rintro e w' ⟨rfl, ⟨nd, rfl⟩⟩; refine ⟨_, rfl, ?_⟩) | ((with_reducible refine gate_callee (f := 21) rfl ?_); refine goesL_ (some 59) rfl rfl Try.func21 (by kernel_rfl) rfl #[.int .i64 a0, .int .i64 a2] rfl (by (try simp only [List.map_toArray, List.map_cons, List.map_nil]); first | done | rfl | (simp only [List.length_drop, List.length_take]; rfl)) ?_; (with_reducible refine (span_Mul.calls a0 a2 t133 _ A24.out).mono ?_); rintro e w' ⟨rfl, ⟨nd, rfl⟩⟩; refine ⟨_, rfl, ?_⟩) | ((with_reducible refine gate_callee (f := 19) rfl ?_); refine goesL_ (some 60) rfl rfl Try.func19 (by kernel_rfl) rfl #[.int .i64 t132, .int .i64 t133] rfl (by (try simp only [List.map_toArray, List.map_cons, List.map_nil]); first | done | rfl | (simp only [List.length_drop, List.length_take]; rfl)) ?_; (with_reducible refine (span_Add.calls t132 t133 t134 _ A25.out).mono ?_); rintro e w' ⟨rfl, ⟨nd, rfl⟩⟩; refine ⟨_, rfl, ?_⟩) | ((with_reducible refine gate_callee (f := 19) rfl ?_); refine goesG_ (some 65) rfl Try.func19 (by kernel_rfl) rfl #[.int .i64 a0, .int .i64 a1] rfl (by first | rfl | (go_simp; done) | (simp [Region.wanted, yielded]; done)) (by (try simp only [List.map_toArray, List.map_cons, List.map_nil]); first | done | rfl | (simp only [List.length_drop, List.length_take]; rfl)) ?_; (with_reducible refine (span_Add.calls a0 a1 t135 _ A27.out).mono ?_); rintro e w' ⟨rfl, ⟨nd, rfl⟩⟩; refine ⟨_, rfl, ?_⟩) | ((with_reducible refine gate_callee (f := 20) rfl ?_); refine goesG_ (some 67) rfl Try.func20 (by kernel_rfl) rfl #[.int .i64 t135, .int .i64 a1] rfl (by first | rfl | (go_simp; done) | (simp [Region.wanted, yielded]; done)) (by (try simp only [List.map_toArray, List.map_cons, List.map_nil]); first | done | rfl | (simp only [List.length_drop, List.length_take]; rfl)) ?_; (with_reducible refine (span_Sub.calls t135 a1 t136 _ A28.out).mono ?_); rintro e w' ⟨rfl, ⟨nd, rfl⟩⟩; refine ⟨_, rfl, ?_⟩) | ((with_reducible refine gate_callee (f := 18) rfl ?_); refine goesG_ (some 69) rfl Try.func18 (by kernel_rfl) rfl #[.int .i64 a0] rfl (by first | rfl | (go_simp; done) | (simp [Region.wanted, yielded]; done)) (by (try simp only [List.map_toArray, List.map_cons, List.map_nil]); first | done | rfl | (simp only [List.length_drop, List.length_take]; rfl)) ?_; (with_reducible refine (span_Wrap.calls a0 t137 _ A29.out).mono ?_); rintro e w' ⟨rfl, ⟨nd, rfl⟩⟩; refine ⟨_, rfl, ?_⟩) | ((with_reducible refine gate_callee (f := 23) rfl ?_); refine goesG_ (some 73) rfl Try.func23 (by kernel_rfl) rfl #[] rfl (by first | rfl | (go_simp; done) | (simp [Region.wanted, yielded]; done)) (by (try simp only [List.map_toArray, List.map_cons, List.map_nil]); first | done | rfl | (simp only [List.length_drop, List.length_take]; rfl)) ?_; (with_reducible refine (handshakerlaw01_awake.calls  t138 _ A31.out).mono ?_); rintro e w' ⟨rfl, ⟨nd, rfl⟩⟩; refine ⟨_, rfl, ?_⟩))
            go_ret
            exact ⟨by first | rfl | (simp; done) | (simp [*]; done), by repeat (first | exact Drawn0.refl _ | apply Drawn0.step)⟩
          · rw [if_neg c30] at H
            have c30b0 : (t136 == t137) = false := beq_eq_false_iff_ne.mpr c30
            have c30b1 : (t136 != t137) = true := bne_iff_ne.mpr c30
            exact absurd (Option.some.inj H) (by rw [HT.out]; decide)
        · rw [if_neg c26] at H
          have c26b0 : (t131 == t134) = false := beq_eq_false_iff_ne.mpr c26
          have c26b1 : (t131 != t134) = true := bne_iff_ne.mpr c26
          exact absurd (Option.some.inj H) (by rw [HT.out]; decide)

/-- THE ONE PURE STATEMENT of handshakerlaw01_SpanLaws. -/
def handshakerlaw01_SpanLaws.Pure : Prop := ∀ (a0 : Int) (a1 : Int) (a2 : Int), (Lit.int .i64 a0).wf = true → (Lit.int .i64 a1).wf = true → (Lit.int .i64 a2).wf = true → ∃ k, handshakerlaw01_SpanLaws.f k a0 a1 a2 = some true

end Go.Proofs.Ytlfeohglfjnnhaa.Sp
