-- PRINTED by print.py (a twelfth state) out of the translation. Not trusted: Lean checks it.
import Derived.Test.YtlfeohglfjnnhaaSpx0
namespace Go.Proofs.Ytlfeohglfjnnhaa.Sp
open Go.Proofs.Ytlfeohglfjnnhaa.Ho
open Go.RowKit Go.Proofs.YtlfeohglfjnnhaaW.PrintWords Go.Proofs.YtlfeohglfjnnhaaW.PrintLast Go.Proofs.YtlfeohglfjnnhaaW.PrintMore
attribute [local go_sem] max2_int min2_int max_two min_two max_three min_three max_four min_four   -- for this text's walks alone
set_option linter.unusedVariables false
set_option linter.unusedSimpArgs false

/-! ### span_Wrap: function 18 -/
def span_Wrap.f (a0 : Int) : Option (Int) := some (wrap64 (wrap32 ((IntKind.u64.wrap (a0)) % 4294967296)))
set_option maxHeartbeats 8000000 in
set_option maxRecDepth 100000 in
theorem span_Wrap.calls (a0 : Int) (r : Int) (w : World) (h : span_Wrap.f a0 = some r) :
    Calls Try.prog 18 #[.int .i64 a0] w fun e w' => e = .returned (.int .i64 r) ∧ Drawn0 w w' := by
  have H : (some (wrap64 (wrap32 ((IntKind.u64.wrap (a0)) % 4294967296)))) = some r := h
  clear h
  obtain rfl := Option.some.inj H
  go_enter Try.func18, Try.ntmps18
  go_wp2
  go_ret
  exact ⟨by first | rfl | (simp; done) | (simp [*]; done), by repeat (first | exact Drawn0.refl _ | apply Drawn0.step)⟩

/-! ### span_Add: function 19 -/
def span_Add.f (a0 : Int) (a1 : Int) : Option (Int) := (span_Wrap.f a0).bind fun t101 => ((span_Wrap.f a1).bind fun t102 => ((span_Wrap.f (wrap64 (t101 + t102))).bind fun t103 => (some t103)))
set_option maxHeartbeats 8000000 in
set_option maxRecDepth 100000 in
theorem span_Add.calls (a0 : Int) (a1 : Int) (r : Int) (w : World) (h : span_Add.f a0 a1 = some r) :
    Calls Try.prog 19 #[.int .i64 a0, .int .i64 a1] w fun e w' => e = .returned (.int .i64 r) ∧ Drawn0 w w' := by
  have H : ((span_Wrap.f a0).bind fun t101 => ((span_Wrap.f a1).bind fun t102 => ((span_Wrap.f (wrap64 (t101 + t102))).bind fun t103 => (some t103)))) = some r := h
  clear h
  replace H := Option.bind_eq_some_iff.mp H
  obtain ⟨t101, A30, H⟩ := H
  replace H : ((span_Wrap.f a1).bind fun t102 => ((span_Wrap.f (wrap64 (t101 + t102))).bind fun t103 => (some t103))) = some r := H
  have A3 := Aside0.mk A30
  clear A30
  replace H := Option.bind_eq_some_iff.mp H
  obtain ⟨t102, A40, H⟩ := H
  replace H : ((span_Wrap.f (wrap64 (t101 + t102))).bind fun t103 => (some t103)) = some r := H
  have A4 := Aside0.mk A40
  clear A40
  replace H := Option.bind_eq_some_iff.mp H
  obtain ⟨t103, A50, H⟩ := H
  replace H : (some t103) = some r := H
  have A5 := Aside0.mk A50
  clear A50
  obtain rfl := Option.some.inj H
  go_enter Try.func19, Try.ntmps19
  go_wp2_with (first | ((with_reducible refine gate_callee (f := 18) rfl ?_); refine goesL_ (some 6) rfl rfl Try.func18 (by kernel_rfl) rfl #[.int .i64 a0] rfl (by (try simp only [List.map_toArray, List.map_cons, List.map_nil]); first | done | rfl | (simp only [List.length_drop, List.length_take]; rfl)) ?_; (with_reducible refine (span_Wrap.calls a0 t101 _ A3.out).mono ?_); rintro e w' ⟨rfl, ⟨nd, rfl⟩⟩; refine ⟨_, rfl, ?_⟩) | ((with_reducible refine gate_callee (f := 18) rfl ?_); refine goesL_ (some 8) rfl rfl Try.func18 (by kernel_rfl) rfl #[.int .i64 a1] rfl (by (try simp only [List.map_toArray, List.map_cons, List.map_nil]); first | done | rfl | (simp only [List.length_drop, List.length_take]; rfl)) ?_; (with_reducible refine (span_Wrap.calls a1 t102 _ A4.out).mono ?_); rintro e w' ⟨rfl, ⟨nd, rfl⟩⟩; refine ⟨_, rfl, ?_⟩) | ((with_reducible refine gate_callee (f := 18) rfl ?_); refine goesL_ (some 10) rfl rfl Try.func18 (by kernel_rfl) rfl #[.int .i64 (wrap64 (t101 + t102))] rfl (by (try simp only [List.map_toArray, List.map_cons, List.map_nil]); first | done | rfl | (simp only [List.length_drop, List.length_take]; rfl)) ?_; (with_reducible refine (span_Wrap.calls (wrap64 (t101 + t102)) t103 _ A5.out).mono ?_); rintro e w' ⟨rfl, ⟨nd, rfl⟩⟩; refine ⟨_, rfl, ?_⟩))
  go_ret
  exact ⟨by first | rfl | (simp; done) | (simp [*]; done), by repeat (first | exact Drawn0.refl _ | apply Drawn0.step)⟩

/-! ### span_Sub: function 20 -/
def span_Sub.f (a0 : Int) (a1 : Int) : Option (Int) := (span_Wrap.f a0).bind fun t104 => ((span_Wrap.f a1).bind fun t105 => ((span_Wrap.f (wrap64 (t104 - t105))).bind fun t106 => (some t106)))
set_option maxHeartbeats 8000000 in
set_option maxRecDepth 100000 in
theorem span_Sub.calls (a0 : Int) (a1 : Int) (r : Int) (w : World) (h : span_Sub.f a0 a1 = some r) :
    Calls Try.prog 20 #[.int .i64 a0, .int .i64 a1] w fun e w' => e = .returned (.int .i64 r) ∧ Drawn0 w w' := by
  have H : ((span_Wrap.f a0).bind fun t104 => ((span_Wrap.f a1).bind fun t105 => ((span_Wrap.f (wrap64 (t104 - t105))).bind fun t106 => (some t106)))) = some r := h
  clear h
  replace H := Option.bind_eq_some_iff.mp H
  obtain ⟨t104, A30, H⟩ := H
  replace H : ((span_Wrap.f a1).bind fun t105 => ((span_Wrap.f (wrap64 (t104 - t105))).bind fun t106 => (some t106))) = some r := H
  have A3 := Aside0.mk A30
  clear A30
  replace H := Option.bind_eq_some_iff.mp H
  obtain ⟨t105, A40, H⟩ := H
  replace H : ((span_Wrap.f (wrap64 (t104 - t105))).bind fun t106 => (some t106)) = some r := H
  have A4 := Aside0.mk A40
  clear A40
  replace H := Option.bind_eq_some_iff.mp H
  obtain ⟨t106, A50, H⟩ := H
  replace H : (some t106) = some r := H
  have A5 := Aside0.mk A50
  clear A50
  obtain rfl := Option.some.inj H
  go_enter Try.func20, Try.ntmps20
  go_wp2_with (first | ((with_reducible refine gate_callee (f := 18) rfl ?_); refine goesL_ (some 6) rfl rfl Try.func18 (by kernel_rfl) rfl #[.int .i64 a0] rfl (by (try simp only [List.map_toArray, List.map_cons, List.map_nil]); first | done | rfl | (simp only [List.length_drop, List.length_take]; rfl)) ?_; (with_reducible refine (span_Wrap.calls a0 t104 _ A3.out).mono ?_); rintro e w' ⟨rfl, ⟨nd, rfl⟩⟩; refine ⟨_, rfl, ?_⟩) | ((with_reducible refine gate_callee (f := 18) rfl ?_); refine goesL_ (some 8) rfl rfl Try.func18 (by kernel_rfl) rfl #[.int .i64 a1] rfl (by (try simp only [List.map_toArray, List.map_cons, List.map_nil]); first | done | rfl | (simp only [List.length_drop, List.length_take]; rfl)) ?_; (with_reducible refine (span_Wrap.calls a1 t105 _ A4.out).mono ?_); rintro e w' ⟨rfl, ⟨nd, rfl⟩⟩; refine ⟨_, rfl, ?_⟩) | ((with_reducible refine gate_callee (f := 18) rfl ?_); refine goesL_ (some 10) rfl rfl Try.func18 (by kernel_rfl) rfl #[.int .i64 (wrap64 (t104 - t105))] rfl (by (try simp only [List.map_toArray, List.map_cons, List.map_nil]); first | done | rfl | (simp only [List.length_drop, List.length_take]; rfl)) ?_; (with_reducible refine (span_Wrap.calls (wrap64 (t104 - t105)) t106 _ A5.out).mono ?_); rintro e w' ⟨rfl, ⟨nd, rfl⟩⟩; refine ⟨_, rfl, ?_⟩))
  go_ret
  exact ⟨by first | rfl | (simp; done) | (simp [*]; done), by repeat (first | exact Drawn0.refl _ | apply Drawn0.step)⟩

/-! ### span_Mul: function 21 -/
def span_Mul.f (a0 : Int) (a1 : Int) : Option (Int) := (span_Wrap.f a0).bind fun t107 => ((span_Wrap.f a1).bind fun t108 => ((span_Wrap.f (wrap64 (t107 * t108))).bind fun t109 => (some t109)))
set_option maxHeartbeats 8000000 in
set_option maxRecDepth 100000 in
theorem span_Mul.calls (a0 : Int) (a1 : Int) (r : Int) (w : World) (h : span_Mul.f a0 a1 = some r) :
    Calls Try.prog 21 #[.int .i64 a0, .int .i64 a1] w fun e w' => e = .returned (.int .i64 r) ∧ Drawn0 w w' := by
  have H : ((span_Wrap.f a0).bind fun t107 => ((span_Wrap.f a1).bind fun t108 => ((span_Wrap.f (wrap64 (t107 * t108))).bind fun t109 => (some t109)))) = some r := h
  clear h
  replace H := Option.bind_eq_some_iff.mp H
  obtain ⟨t107, A30, H⟩ := H
  replace H : ((span_Wrap.f a1).bind fun t108 => ((span_Wrap.f (wrap64 (t107 * t108))).bind fun t109 => (some t109))) = some r := H
  have A3 := Aside0.mk A30
  clear A30
  replace H := Option.bind_eq_some_iff.mp H
  obtain ⟨t108, A40, H⟩ := H
  replace H : ((span_Wrap.f (wrap64 (t107 * t108))).bind fun t109 => (some t109)) = some r := H
  have A4 := Aside0.mk A40
  clear A40
  replace H := Option.bind_eq_some_iff.mp H
  obtain ⟨t109, A50, H⟩ := H
  replace H : (some t109) = some r := H
  have A5 := Aside0.mk A50
  clear A50
  obtain rfl := Option.some.inj H
  go_enter Try.func21, Try.ntmps21
  go_wp2_with (first | ((with_reducible refine gate_callee (f := 18) rfl ?_); refine goesL_ (some 6) rfl rfl Try.func18 (by kernel_rfl) rfl #[.int .i64 a0] rfl (by (try simp only [List.map_toArray, List.map_cons, List.map_nil]); first | done | rfl | (simp only [List.length_drop, List.length_take]; rfl)) ?_; (with_reducible refine (span_Wrap.calls a0 t107 _ A3.out).mono ?_); rintro e w' ⟨rfl, ⟨nd, rfl⟩⟩; refine ⟨_, rfl, ?_⟩) | ((with_reducible refine gate_callee (f := 18) rfl ?_); refine goesL_ (some 8) rfl rfl Try.func18 (by kernel_rfl) rfl #[.int .i64 a1] rfl (by (try simp only [List.map_toArray, List.map_cons, List.map_nil]); first | done | rfl | (simp only [List.length_drop, List.length_take]; rfl)) ?_; (with_reducible refine (span_Wrap.calls a1 t108 _ A4.out).mono ?_); rintro e w' ⟨rfl, ⟨nd, rfl⟩⟩; refine ⟨_, rfl, ?_⟩) | ((with_reducible refine gate_callee (f := 18) rfl ?_); refine goesL_ (some 10) rfl rfl Try.func18 (by kernel_rfl) rfl #[.int .i64 (wrap64 (t107 * t108))] rfl (by (try simp only [List.map_toArray, List.map_cons, List.map_nil]); first | done | rfl | (simp only [List.length_drop, List.length_take]; rfl)) ?_; (with_reducible refine (span_Wrap.calls (wrap64 (t107 * t108)) t109 _ A5.out).mono ?_); rintro e w' ⟨rfl, ⟨nd, rfl⟩⟩; refine ⟨_, rfl, ?_⟩))
  go_ret
  exact ⟨by first | rfl | (simp; done) | (simp [*]; done), by repeat (first | exact Drawn0.refl _ | apply Drawn0.step)⟩

/-! ### span_Right: function 16 -/
def span_Right.f (a0 : Int) : Option (Bool) := if a0 ≥ (-2147483648) then (some (decide (a0 ≤ 2147483647))) else (some false)
set_option maxHeartbeats 8000000 in
set_option maxRecDepth 100000 in
theorem span_Right.calls (a0 : Int) (r : Bool) (w : World) (h : span_Right.f a0 = some r) :
    Calls Try.prog 16 #[.int .i64 a0] w fun e w' => e = .returned (.bool r) ∧ Drawn0 w w' := by
  have H : (if a0 ≥ (-2147483648) then (some (decide (a0 ≤ 2147483647))) else (some false)) = some r := h
  clear h
  by_cases c2 : a0 ≥ (-2147483648)
  · rw [if_pos c2] at H
    have c2b0 : decide ((-2147483648) ≤ a0) = true := decide_eq_true c2
    clear c2
    obtain rfl := Option.some.inj H
    go_enter Try.func16, Try.ntmps16
    go_wp2
    go_ret
    exact ⟨by first | rfl | (simp; done) | (simp [*]; done), by repeat (first | exact Drawn0.refl _ | apply Drawn0.step)⟩
  · rw [if_neg c2] at H
    have c2b0 : decide ((-2147483648) ≤ a0) = false := decide_eq_false c2
    clear c2
    obtain rfl := Option.some.inj H
    go_enter Try.func16, Try.ntmps16
    go_wp2
    go_ret
    exact ⟨by first | rfl | (simp; done) | (simp [*]; done), by repeat (first | exact Drawn0.refl _ | apply Drawn0.step)⟩

/-! ### span_Truth: function 24 -/
def span_Truth.f (a0 : Bool) : Option (Int) := if a0 = true then (some 1) else (some 0)
set_option maxHeartbeats 8000000 in
set_option maxRecDepth 100000 in
theorem span_Truth.calls (a0 : Bool) (r : Int) (w : World) (h : span_Truth.f a0 = some r) :
    Calls Try.prog 24 #[.bool a0] w fun e w' => e = .returned (.int .i64 r) ∧ Drawn0 w w' := by
  have H : (if a0 = true then (some 1) else (some 0)) = some r := h
  clear h
  by_cases c2 : a0 = true
  · subst c2
    have H1 : (some 1) = some r := by rw [if_pos rfl] at H; exact H
    clear H
    have H := H1
    clear H1
    obtain rfl := Option.some.inj H
    go_enter Try.func24, Try.ntmps24
    go_wp2
    go_ret
    exact ⟨by first | rfl | (simp; done) | (simp [*]; done), by repeat (first | exact Drawn0.refl _ | apply Drawn0.step)⟩
  · replace c2 := Bool.eq_false_iff.mpr c2
    subst c2
    have H1 : (some 0) = some r := by rw [if_neg (show ¬ (false = true) by decide)] at H; exact H
    clear H
    have H := H1
    clear H1
    obtain rfl := Option.some.inj H
    go_enter Try.func24, Try.ntmps24
    go_wp2
    go_ret
    exact ⟨by first | rfl | (simp; done) | (simp [*]; done), by repeat (first | exact Drawn0.refl _ | apply Drawn0.step)⟩

/-! ### handshakerlaw01_awake: function 23 -/
def handshakerlaw01_awake.f  : Option (Bool) := (span_Add.f 2147483647 1).bind fun t110 => (if t110 = (-2147483648) then ((span_Sub.f (-2147483648) 1).bind fun t111 => (if t111 = 2147483647 then ((span_Mul.f 65536 65536).bind fun t112 => (if t112 = 0 then ((span_Wrap.f 4294967301).bind fun t113 => (if t113 = 5 then ((span_Truth.f true).bind fun t114 => (if t114 = 1 then ((span_Truth.f false).bind fun t115 => (if t115 = 0 then ((span_Right.f (-2147483648)).bind fun t116 => (if t116 = true then ((span_Right.f 2147483648).bind fun t117 => (if t117 = true then (some false) else (some true))) else (some false))) else (some false))) else (some false))) else (some false))) else (some false))) else (some false))) else (some false))
set_option maxHeartbeats 8000000 in
set_option maxRecDepth 100000 in
theorem handshakerlaw01_awake.callsT  (r : Bool) (w : World) (HT : Aside0 (r = true)) (h : handshakerlaw01_awake.f  = some r) :
    Calls Try.prog 23 #[] w fun e w' => e = .returned (.bool r) ∧ Drawn0 w w' := by
  have H : ((span_Add.f 2147483647 1).bind fun t110 => (if t110 = (-2147483648) then ((span_Sub.f (-2147483648) 1).bind fun t111 => (if t111 = 2147483647 then ((span_Mul.f 65536 65536).bind fun t112 => (if t112 = 0 then ((span_Wrap.f 4294967301).bind fun t113 => (if t113 = 5 then ((span_Truth.f true).bind fun t114 => (if t114 = 1 then ((span_Truth.f false).bind fun t115 => (if t115 = 0 then ((span_Right.f (-2147483648)).bind fun t116 => (if t116 = true then ((span_Right.f 2147483648).bind fun t117 => (if t117 = true then (some false) else (some true))) else (some false))) else (some false))) else (some false))) else (some false))) else (some false))) else (some false))) else (some false))) = some r := h
  clear h
  replace H := Option.bind_eq_some_iff.mp H
  obtain ⟨t110, A10, H⟩ := H
  replace H : (if t110 = (-2147483648) then ((span_Sub.f (-2147483648) 1).bind fun t111 => (if t111 = 2147483647 then ((span_Mul.f 65536 65536).bind fun t112 => (if t112 = 0 then ((span_Wrap.f 4294967301).bind fun t113 => (if t113 = 5 then ((span_Truth.f true).bind fun t114 => (if t114 = 1 then ((span_Truth.f false).bind fun t115 => (if t115 = 0 then ((span_Right.f (-2147483648)).bind fun t116 => (if t116 = true then ((span_Right.f 2147483648).bind fun t117 => (if t117 = true then (some false) else (some true))) else (some false))) else (some false))) else (some false))) else (some false))) else (some false))) else (some false))) else (some false)) = some r := H
  have A1 := Aside0.mk A10
  clear A10
  by_cases c2 : t110 = (-2147483648)
  · rw [if_pos c2] at H
    have c2b0 : (t110 == (-2147483648)) = true := beq_iff_eq.mpr c2
    have c2b1 : (t110 != (-2147483648)) = false := bne_eq_false_iff_eq.mpr c2
    clear c2
    replace H := Option.bind_eq_some_iff.mp H
    obtain ⟨t111, A30, H⟩ := H
    replace H : (if t111 = 2147483647 then ((span_Mul.f 65536 65536).bind fun t112 => (if t112 = 0 then ((span_Wrap.f 4294967301).bind fun t113 => (if t113 = 5 then ((span_Truth.f true).bind fun t114 => (if t114 = 1 then ((span_Truth.f false).bind fun t115 => (if t115 = 0 then ((span_Right.f (-2147483648)).bind fun t116 => (if t116 = true then ((span_Right.f 2147483648).bind fun t117 => (if t117 = true then (some false) else (some true))) else (some false))) else (some false))) else (some false))) else (some false))) else (some false))) else (some false)) = some r := H
    have A3 := Aside0.mk A30
    clear A30
    by_cases c4 : t111 = 2147483647
    · rw [if_pos c4] at H
      have c4b0 : (t111 == 2147483647) = true := beq_iff_eq.mpr c4
      have c4b1 : (t111 != 2147483647) = false := bne_eq_false_iff_eq.mpr c4
      clear c4
      replace H := Option.bind_eq_some_iff.mp H
      obtain ⟨t112, A50, H⟩ := H
      replace H : (if t112 = 0 then ((span_Wrap.f 4294967301).bind fun t113 => (if t113 = 5 then ((span_Truth.f true).bind fun t114 => (if t114 = 1 then ((span_Truth.f false).bind fun t115 => (if t115 = 0 then ((span_Right.f (-2147483648)).bind fun t116 => (if t116 = true then ((span_Right.f 2147483648).bind fun t117 => (if t117 = true then (some false) else (some true))) else (some false))) else (some false))) else (some false))) else (some false))) else (some false)) = some r := H
      have A5 := Aside0.mk A50
      clear A50
      by_cases c6 : t112 = 0
      · rw [if_pos c6] at H
        have c6b0 : (t112 == 0) = true := beq_iff_eq.mpr c6
        have c6b1 : (t112 != 0) = false := bne_eq_false_iff_eq.mpr c6
        clear c6
        replace H := Option.bind_eq_some_iff.mp H
        obtain ⟨t113, A70, H⟩ := H
        replace H : (if t113 = 5 then ((span_Truth.f true).bind fun t114 => (if t114 = 1 then ((span_Truth.f false).bind fun t115 => (if t115 = 0 then ((span_Right.f (-2147483648)).bind fun t116 => (if t116 = true then ((span_Right.f 2147483648).bind fun t117 => (if t117 = true then (some false) else (some true))) else (some false))) else (some false))) else (some false))) else (some false)) = some r := H
        have A7 := Aside0.mk A70
        clear A70
        by_cases c8 : t113 = 5
        · rw [if_pos c8] at H
          have c8b0 : (t113 == 5) = true := beq_iff_eq.mpr c8
          have c8b1 : (t113 != 5) = false := bne_eq_false_iff_eq.mpr c8
          clear c8
          replace H := Option.bind_eq_some_iff.mp H
          obtain ⟨t114, A90, H⟩ := H
          replace H : (if t114 = 1 then ((span_Truth.f false).bind fun t115 => (if t115 = 0 then ((span_Right.f (-2147483648)).bind fun t116 => (if t116 = true then ((span_Right.f 2147483648).bind fun t117 => (if t117 = true then (some false) else (some true))) else (some false))) else (some false))) else (some false)) = some r := H
          have A9 := Aside0.mk A90
          clear A90
          by_cases c10 : t114 = 1
          · rw [if_pos c10] at H
            have c10b0 : (t114 == 1) = true := beq_iff_eq.mpr c10
            have c10b1 : (t114 != 1) = false := bne_eq_false_iff_eq.mpr c10
            clear c10
            replace H := Option.bind_eq_some_iff.mp H
            obtain ⟨t115, A110, H⟩ := H
            replace H : (if t115 = 0 then ((span_Right.f (-2147483648)).bind fun t116 => (if t116 = true then ((span_Right.f 2147483648).bind fun t117 => (if t117 = true then (some false) else (some true))) else (some false))) else (some false)) = some r := H
            have A11 := Aside0.mk A110
            clear A110
            by_cases c12 : t115 = 0
            · rw [if_pos c12] at H
              have c12b0 : (t115 == 0) = true := beq_iff_eq.mpr c12
              have c12b1 : (t115 != 0) = false := bne_eq_false_iff_eq.mpr c12
              clear c12
              replace H := Option.bind_eq_some_iff.mp H
              obtain ⟨t116, A130, H⟩ := H
              replace H : (if t116 = true then ((span_Right.f 2147483648).bind fun t117 => (if t117 = true then (some false) else (some true))) else (some false)) = some r := H
              have A13 := Aside0.mk A130
              clear A130
              by_cases c14 : t116 = true
              · subst c14
                have H1 : ((span_Right.f 2147483648).bind fun t117 => (if t117 = true then (some false) else (some true))) = some r := by rw [if_pos rfl] at H; exact H
                clear H
                have H := H1
                clear H1
                replace H := Option.bind_eq_some_iff.mp H
                obtain ⟨t117, A150, H⟩ := H
                replace H : (if t117 = true then (some false) else (some true)) = some r := H
                have A15 := Aside0.mk A150
                clear A150
                by_cases c16 : t117 = true
                · subst c16
                  have H1 : (some false) = some r := by rw [if_pos rfl] at H; exact H
                  clear H
                  have H := H1
                  clear H1
                  exact absurd (Option.some.inj H) (by rw [HT.out]; decide)
                · replace c16 := Bool.eq_false_iff.mpr c16
                  subst c16
                  have H1 : (some true) = some r := by rw [if_neg (show ¬ (false = true) by decide)] at H; exact H
                  clear H
                  have H := H1
                  clear H1
                  obtain rfl := Option.some.inj H
                  go_enter Try.func23, Try.ntmps23
                  go_wp2_with (first | ((with_reducible refine gate_callee (f := 19) rfl ?_); refine goesL_ (some 1) rfl rfl Try.func19 (by kernel_rfl) rfl #[.int .i64 2147483647, .int .i64 1] rfl (by (try simp only [List.map_toArray, List.map_cons, List.map_nil]); first | done | rfl | (simp only [List.length_drop, List.length_take]; rfl)) ?_; (with_reducible refine (span_Add.calls 2147483647 1 t110 _ A1.out).mono ?_); rintro e w' ⟨rfl, ⟨nd, rfl⟩⟩; refine ⟨_, rfl, ?_⟩) | ((with_reducible refine gate_callee (f := 20) rfl ?_); refine goesG_ (some 4) rfl Try.func20 (by kernel_rfl) rfl #[.int .i64 (-2147483648), .int .i64 1] rfl (by first | rfl | (go_simp; done) | (simp [Region.wanted, yielded]; done)) (by (try simp only [List.map_toArray, List.map_cons, List.map_nil]); first | done | rfl | (simp only [List.length_drop, List.length_take]; rfl)) ?_; (with_reducible refine (span_Sub.calls (-2147483648) 1 t111 _ A3.out).mono ?_); rintro e w' ⟨rfl, ⟨nd, rfl⟩⟩; refine ⟨_, rfl, ?_⟩) | ((with_reducible refine gate_callee (f := 21) rfl ?_); refine goesG_ (some 8) rfl Try.func21 (by kernel_rfl) rfl #[.int .i64 65536, .int .i64 65536] rfl (by first | rfl | (go_simp; done) | (simp [Region.wanted, yielded]; done)) (by (try simp only [List.map_toArray, List.map_cons, List.map_nil]); first | done | rfl | (simp only [List.length_drop, List.length_take]; rfl)) ?_; (with_reducible refine (span_Mul.calls 65536 65536 t112 _ A5.out).mono ?_); rintro e w' ⟨rfl, ⟨nd, rfl⟩⟩; refine ⟨_, rfl, ?_⟩) | ((with_reducible refine gate_callee (f := 18) rfl ?_); refine goesG_ (some 12) rfl Try.func18 (by kernel_rfl) rfl #[.int .i64 4294967301] rfl (by first | rfl | (go_simp; done) | (simp [Region.wanted, yielded]; done)) (by (try simp only [List.map_toArray, List.map_cons, List.map_nil]); first | done | rfl | (simp only [List.length_drop, List.length_take]; rfl)) ?_; (with_reducible refine (span_Wrap.calls 4294967301 t113 _ A7.out).mono ?_); rintro e w' ⟨rfl, ⟨nd, rfl⟩⟩; refine ⟨_, rfl, ?_⟩) | ((with_reducible refine gate_callee (f := 24) rfl ?_); refine goesG_ (some 16) rfl Try.func24 (by kernel_rfl) rfl #[.bool true] rfl (by first | rfl | (go_simp; done) | (simp [Region.wanted, yielded]; done)) (by (try simp only [List.map_toArray, List.map_cons, List.map_nil]); first | done | rfl | (simp only [List.length_drop, List.length_take]; rfl)) ?_; (with_reducible refine (span_Truth.calls true t114 _ A9.out).mono ?_); rintro e w' ⟨rfl, ⟨nd, rfl⟩⟩; refine ⟨_, rfl, ?_⟩) | ((with_reducible refine gate_callee (f := 24) rfl ?_); refine goesG_ (some 20) rfl Try.func24 (by kernel_rfl) rfl #[.bool false] rfl (by first | rfl | (go_simp; done) | (simp [Region.wanted, yielded]; done)) (by (try simp only [List.map_toArray, List.map_cons, List.map_nil]); first | done | rfl | (simp only [List.length_drop, List.length_take]; rfl)) ?_; (with_reducible refine (span_Truth.calls false t115 _ A11.out).mono ?_); rintro e w' ⟨rfl, ⟨nd, rfl⟩⟩; refine ⟨_, rfl, ?_⟩) | ((with_reducible refine gate_callee (f := 16) rfl ?_); refine goesG_ (some 24) rfl Try.func16 (by kernel_rfl) rfl #[.int .i64 (-2147483648)] rfl (by first | rfl | (go_simp; done) | (simp [Region.wanted, yielded]; done)) (by (try simp only [List.map_toArray, List.map_cons, List.map_nil]); first | done | rfl | (simp only [List.length_drop, List.length_take]; rfl)) ?_; (with_reducible refine (span_Right.calls (-2147483648) true _ A13.out).mono ?_); rintro e w' ⟨rfl, ⟨nd, rfl⟩⟩; refine ⟨_, rfl, ?_⟩) | ((with_reducible refine gate_callee (f := 16) rfl ?_); refine goesG_ (some 27) rfl Try.func16 (by kernel_rfl) rfl #[.int .i64 2147483648] rfl (by first | rfl | (go_simp; done) | (simp [Region.wanted, yielded]; done)) (by (try simp only [List.map_toArray, List.map_cons, List.map_nil]); first | done | rfl | (simp only [List.length_drop, List.length_take]; rfl)) ?_; (with_reducible refine (span_Right.calls 2147483648 false _ A15.out).mono ?_); rintro e w' ⟨rfl, ⟨nd, rfl⟩⟩; refine ⟨_, rfl, ?_⟩))
                  go_ret
                  exact ⟨by first | rfl | (simp; done) | (simp [*]; done), by repeat (first | exact Drawn0.refl _ | apply Drawn0.step)⟩
              · replace c14 := Bool.eq_false_iff.mpr c14
                subst c14
                have H1 : (some false) = some r := by rw [if_neg (show ¬ (false = true) by decide)] at H; exact H
                clear H
                have H := H1
                clear H1
                exact absurd (Option.some.inj H) (by rw [HT.out]; decide)
            · rw [if_neg c12] at H
              have c12b0 : (t115 == 0) = false := beq_eq_false_iff_ne.mpr c12
              have c12b1 : (t115 != 0) = true := bne_iff_ne.mpr c12
              exact absurd (Option.some.inj H) (by rw [HT.out]; decide)
          · rw [if_neg c10] at H
            have c10b0 : (t114 == 1) = false := beq_eq_false_iff_ne.mpr c10
            have c10b1 : (t114 != 1) = true := bne_iff_ne.mpr c10
            exact absurd (Option.some.inj H) (by rw [HT.out]; decide)
        · rw [if_neg c8] at H
          have c8b0 : (t113 == 5) = false := beq_eq_false_iff_ne.mpr c8
          have c8b1 : (t113 != 5) = true := bne_iff_ne.mpr c8
          exact absurd (Option.some.inj H) (by rw [HT.out]; decide)
      · rw [if_neg c6] at H
        have c6b0 : (t112 == 0) = false := beq_eq_false_iff_ne.mpr c6
        have c6b1 : (t112 != 0) = true := bne_iff_ne.mpr c6
        exact absurd (Option.some.inj H) (by rw [HT.out]; decide)
    · rw [if_neg c4] at H
      have c4b0 : (t111 == 2147483647) = false := beq_eq_false_iff_ne.mpr c4
      have c4b1 : (t111 != 2147483647) = true := bne_iff_ne.mpr c4
      exact absurd (Option.some.inj H) (by rw [HT.out]; decide)
  · rw [if_neg c2] at H
    have c2b0 : (t110 == (-2147483648)) = false := beq_eq_false_iff_ne.mpr c2
    have c2b1 : (t110 != (-2147483648)) = true := bne_iff_ne.mpr c2
    exact absurd (Option.some.inj H) (by rw [HT.out]; decide)

theorem handshakerlaw01_awake.only (r : Bool) (h : handshakerlaw01_awake.f = some r) : r = true := by
  have h1 : handshakerlaw01_awake.f = some true := by decide +kernel
  rw [h1] at h
  exact (Option.some.inj h).symm
theorem handshakerlaw01_awake.calls (r : Bool) (w : World) (h : handshakerlaw01_awake.f = some r) :
    Calls Try.prog 23 #[] w fun e w' => e = .returned (.bool r) ∧ Drawn0 w w' :=
  handshakerlaw01_awake.callsT r w ⟨handshakerlaw01_awake.only r h⟩ h

end Go.Proofs.Ytlfeohglfjnnhaa.Sp
