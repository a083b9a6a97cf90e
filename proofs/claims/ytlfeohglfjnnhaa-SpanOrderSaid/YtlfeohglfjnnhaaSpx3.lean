-- PRINTED by print.py (a twelfth state) out of the translation. Not trusted: Lean checks it.
import Derived.Test.YtlfeohglfjnnhaaSpx0
import Derived.Test.YtlfeohglfjnnhaaSpx1
namespace Go.Proofs.Ytlfeohglfjnnhaa.Sp
open Go.Proofs.Ytlfeohglfjnnhaa.Ho
open Go.RowKit Go.Proofs.YtlfeohglfjnnhaaW.PrintWords Go.Proofs.YtlfeohglfjnnhaaW.PrintLast Go.Proofs.YtlfeohglfjnnhaaW.PrintMore
attribute [local go_sem] max2_int min2_int max_two min_two max_three min_three max_four min_four   -- for this text's walks alone
set_option linter.unusedVariables false
set_option linter.unusedSimpArgs false

/-! ### handshakerlaw01_SpanOrder: function 7 -/
def handshakerlaw01_SpanOrder.f (a0 : Int) (a1 : Int) (a2 : Bool) : Option (Bool) := (span_Wrap.f a0).bind fun t139 => ((span_Wrap.f a1).bind fun t140 => ((span_Truth.f a2).bind fun t141 => ((span_Sub.f a0 a1).bind fun t142 => (if t142 = 0 then (if t139 = t140 then (if t141 = 1 then (if a2 = true then (if t141 = 0 then ((span_Sub.f a0 a1).bind fun t143 => ((span_Add.f t143 a1).bind fun t144 => ((span_Wrap.f a0).bind fun t145 => (if t144 = t145 then ((span_Truth.f true).bind fun t146 => ((span_Sub.f a1 a0).bind fun t147 => ((span_Truth.f (t147 == 0)).bind fun t148 => (if t146 = t148 then ((handshakerlaw01_awake.f).bind fun t149 => (some t149)) else (some false))))) else (some false))))) else ((span_Sub.f a0 a1).bind fun t150 => ((span_Add.f t150 a1).bind fun t151 => ((span_Wrap.f a0).bind fun t152 => (if t151 = t152 then ((span_Truth.f true).bind fun t153 => ((span_Sub.f a1 a0).bind fun t154 => ((span_Truth.f (t154 == 0)).bind fun t155 => (if t153 = t155 then ((handshakerlaw01_awake.f).bind fun t156 => (some t156)) else (some false))))) else (some false)))))) else (some false)) else (if a2 = true then (some false) else (if t141 = 0 then ((span_Sub.f a0 a1).bind fun t157 => ((span_Add.f t157 a1).bind fun t158 => ((span_Wrap.f a0).bind fun t159 => (if t158 = t159 then ((span_Truth.f true).bind fun t160 => ((span_Sub.f a1 a0).bind fun t161 => ((span_Truth.f (t161 == 0)).bind fun t162 => (if t160 = t162 then ((handshakerlaw01_awake.f).bind fun t163 => (some t163)) else (some false))))) else (some false))))) else (some false)))) else (some false)) else (if t139 = t140 then (some false) else (if t141 = 1 then (if a2 = true then (if t141 = 0 then ((span_Sub.f a0 a1).bind fun t164 => ((span_Add.f t164 a1).bind fun t165 => ((span_Wrap.f a0).bind fun t166 => (if t165 = t166 then ((span_Truth.f false).bind fun t167 => ((span_Sub.f a1 a0).bind fun t168 => ((span_Truth.f (t168 == 0)).bind fun t169 => (if t167 = t169 then ((handshakerlaw01_awake.f).bind fun t170 => (some t170)) else (some false))))) else (some false))))) else ((span_Sub.f a0 a1).bind fun t171 => ((span_Add.f t171 a1).bind fun t172 => ((span_Wrap.f a0).bind fun t173 => (if t172 = t173 then ((span_Truth.f false).bind fun t174 => ((span_Sub.f a1 a0).bind fun t175 => ((span_Truth.f (t175 == 0)).bind fun t176 => (if t174 = t176 then ((handshakerlaw01_awake.f).bind fun t177 => (some t177)) else (some false))))) else (some false)))))) else (some false)) else (if a2 = true then (some false) else (if t141 = 0 then ((span_Sub.f a0 a1).bind fun t178 => ((span_Add.f t178 a1).bind fun t179 => ((span_Wrap.f a0).bind fun t180 => (if t179 = t180 then ((span_Truth.f false).bind fun t181 => ((span_Sub.f a1 a0).bind fun t182 => ((span_Truth.f (t182 == 0)).bind fun t183 => (if t181 = t183 then ((handshakerlaw01_awake.f).bind fun t184 => (some t184)) else (some false))))) else (some false))))) else (some false)))))))))
set_option maxHeartbeats 8000000 in
set_option maxRecDepth 100000 in
theorem handshakerlaw01_SpanOrder.calls (a0 : Int) (a1 : Int) (a2 : Bool) (r : Bool) (w : World) (HT : Aside0 (r = true)) (h : handshakerlaw01_SpanOrder.f a0 a1 a2 = some r) :
    Calls Try.prog 7 #[.int .i64 a0, .int .i64 a1, .bool a2] w fun e w' => e = .returned (.bool r) ∧ Drawn0 w w' := by
  have H : ((span_Wrap.f a0).bind fun t139 => ((span_Wrap.f a1).bind fun t140 => ((span_Truth.f a2).bind fun t141 => ((span_Sub.f a0 a1).bind fun t142 => (if t142 = 0 then (if t139 = t140 then (if t141 = 1 then (if a2 = true then (if t141 = 0 then ((span_Sub.f a0 a1).bind fun t143 => ((span_Add.f t143 a1).bind fun t144 => ((span_Wrap.f a0).bind fun t145 => (if t144 = t145 then ((span_Truth.f true).bind fun t146 => ((span_Sub.f a1 a0).bind fun t147 => ((span_Truth.f (t147 == 0)).bind fun t148 => (if t146 = t148 then ((handshakerlaw01_awake.f).bind fun t149 => (some t149)) else (some false))))) else (some false))))) else ((span_Sub.f a0 a1).bind fun t150 => ((span_Add.f t150 a1).bind fun t151 => ((span_Wrap.f a0).bind fun t152 => (if t151 = t152 then ((span_Truth.f true).bind fun t153 => ((span_Sub.f a1 a0).bind fun t154 => ((span_Truth.f (t154 == 0)).bind fun t155 => (if t153 = t155 then ((handshakerlaw01_awake.f).bind fun t156 => (some t156)) else (some false))))) else (some false)))))) else (some false)) else (if a2 = true then (some false) else (if t141 = 0 then ((span_Sub.f a0 a1).bind fun t157 => ((span_Add.f t157 a1).bind fun t158 => ((span_Wrap.f a0).bind fun t159 => (if t158 = t159 then ((span_Truth.f true).bind fun t160 => ((span_Sub.f a1 a0).bind fun t161 => ((span_Truth.f (t161 == 0)).bind fun t162 => (if t160 = t162 then ((handshakerlaw01_awake.f).bind fun t163 => (some t163)) else (some false))))) else (some false))))) else (some false)))) else (some false)) else (if t139 = t140 then (some false) else (if t141 = 1 then (if a2 = true then (if t141 = 0 then ((span_Sub.f a0 a1).bind fun t164 => ((span_Add.f t164 a1).bind fun t165 => ((span_Wrap.f a0).bind fun t166 => (if t165 = t166 then ((span_Truth.f false).bind fun t167 => ((span_Sub.f a1 a0).bind fun t168 => ((span_Truth.f (t168 == 0)).bind fun t169 => (if t167 = t169 then ((handshakerlaw01_awake.f).bind fun t170 => (some t170)) else (some false))))) else (some false))))) else ((span_Sub.f a0 a1).bind fun t171 => ((span_Add.f t171 a1).bind fun t172 => ((span_Wrap.f a0).bind fun t173 => (if t172 = t173 then ((span_Truth.f false).bind fun t174 => ((span_Sub.f a1 a0).bind fun t175 => ((span_Truth.f (t175 == 0)).bind fun t176 => (if t174 = t176 then ((handshakerlaw01_awake.f).bind fun t177 => (some t177)) else (some false))))) else (some false)))))) else (some false)) else (if a2 = true then (some false) else (if t141 = 0 then ((span_Sub.f a0 a1).bind fun t178 => ((span_Add.f t178 a1).bind fun t179 => ((span_Wrap.f a0).bind fun t180 => (if t179 = t180 then ((span_Truth.f false).bind fun t181 => ((span_Sub.f a1 a0).bind fun t182 => ((span_Truth.f (t182 == 0)).bind fun t183 => (if t181 = t183 then ((handshakerlaw01_awake.f).bind fun t184 => (some t184)) else (some false))))) else (some false))))) else (some false)))))))))) = some r := h
  clear h
  replace H := Option.bind_eq_some_iff.mp H
  obtain ⟨t139, A40, H⟩ := H
  replace H : ((span_Wrap.f a1).bind fun t140 => ((span_Truth.f a2).bind fun t141 => ((span_Sub.f a0 a1).bind fun t142 => (if t142 = 0 then (if t139 = t140 then (if t141 = 1 then (if a2 = true then (if t141 = 0 then ((span_Sub.f a0 a1).bind fun t143 => ((span_Add.f t143 a1).bind fun t144 => ((span_Wrap.f a0).bind fun t145 => (if t144 = t145 then ((span_Truth.f true).bind fun t146 => ((span_Sub.f a1 a0).bind fun t147 => ((span_Truth.f (t147 == 0)).bind fun t148 => (if t146 = t148 then ((handshakerlaw01_awake.f).bind fun t149 => (some t149)) else (some false))))) else (some false))))) else ((span_Sub.f a0 a1).bind fun t150 => ((span_Add.f t150 a1).bind fun t151 => ((span_Wrap.f a0).bind fun t152 => (if t151 = t152 then ((span_Truth.f true).bind fun t153 => ((span_Sub.f a1 a0).bind fun t154 => ((span_Truth.f (t154 == 0)).bind fun t155 => (if t153 = t155 then ((handshakerlaw01_awake.f).bind fun t156 => (some t156)) else (some false))))) else (some false)))))) else (some false)) else (if a2 = true then (some false) else (if t141 = 0 then ((span_Sub.f a0 a1).bind fun t157 => ((span_Add.f t157 a1).bind fun t158 => ((span_Wrap.f a0).bind fun t159 => (if t158 = t159 then ((span_Truth.f true).bind fun t160 => ((span_Sub.f a1 a0).bind fun t161 => ((span_Truth.f (t161 == 0)).bind fun t162 => (if t160 = t162 then ((handshakerlaw01_awake.f).bind fun t163 => (some t163)) else (some false))))) else (some false))))) else (some false)))) else (some false)) else (if t139 = t140 then (some false) else (if t141 = 1 then (if a2 = true then (if t141 = 0 then ((span_Sub.f a0 a1).bind fun t164 => ((span_Add.f t164 a1).bind fun t165 => ((span_Wrap.f a0).bind fun t166 => (if t165 = t166 then ((span_Truth.f false).bind fun t167 => ((span_Sub.f a1 a0).bind fun t168 => ((span_Truth.f (t168 == 0)).bind fun t169 => (if t167 = t169 then ((handshakerlaw01_awake.f).bind fun t170 => (some t170)) else (some false))))) else (some false))))) else ((span_Sub.f a0 a1).bind fun t171 => ((span_Add.f t171 a1).bind fun t172 => ((span_Wrap.f a0).bind fun t173 => (if t172 = t173 then ((span_Truth.f false).bind fun t174 => ((span_Sub.f a1 a0).bind fun t175 => ((span_Truth.f (t175 == 0)).bind fun t176 => (if t174 = t176 then ((handshakerlaw01_awake.f).bind fun t177 => (some t177)) else (some false))))) else (some false)))))) else (some false)) else (if a2 = true then (some false) else (if t141 = 0 then ((span_Sub.f a0 a1).bind fun t178 => ((span_Add.f t178 a1).bind fun t179 => ((span_Wrap.f a0).bind fun t180 => (if t179 = t180 then ((span_Truth.f false).bind fun t181 => ((span_Sub.f a1 a0).bind fun t182 => ((span_Truth.f (t182 == 0)).bind fun t183 => (if t181 = t183 then ((handshakerlaw01_awake.f).bind fun t184 => (some t184)) else (some false))))) else (some false))))) else (some false))))))))) = some r := H
  have A4 := Aside0.mk A40
  clear A40
  replace H := Option.bind_eq_some_iff.mp H
  obtain ⟨t140, A50, H⟩ := H
  replace H : ((span_Truth.f a2).bind fun t141 => ((span_Sub.f a0 a1).bind fun t142 => (if t142 = 0 then (if t139 = t140 then (if t141 = 1 then (if a2 = true then (if t141 = 0 then ((span_Sub.f a0 a1).bind fun t143 => ((span_Add.f t143 a1).bind fun t144 => ((span_Wrap.f a0).bind fun t145 => (if t144 = t145 then ((span_Truth.f true).bind fun t146 => ((span_Sub.f a1 a0).bind fun t147 => ((span_Truth.f (t147 == 0)).bind fun t148 => (if t146 = t148 then ((handshakerlaw01_awake.f).bind fun t149 => (some t149)) else (some false))))) else (some false))))) else ((span_Sub.f a0 a1).bind fun t150 => ((span_Add.f t150 a1).bind fun t151 => ((span_Wrap.f a0).bind fun t152 => (if t151 = t152 then ((span_Truth.f true).bind fun t153 => ((span_Sub.f a1 a0).bind fun t154 => ((span_Truth.f (t154 == 0)).bind fun t155 => (if t153 = t155 then ((handshakerlaw01_awake.f).bind fun t156 => (some t156)) else (some false))))) else (some false)))))) else (some false)) else (if a2 = true then (some false) else (if t141 = 0 then ((span_Sub.f a0 a1).bind fun t157 => ((span_Add.f t157 a1).bind fun t158 => ((span_Wrap.f a0).bind fun t159 => (if t158 = t159 then ((span_Truth.f true).bind fun t160 => ((span_Sub.f a1 a0).bind fun t161 => ((span_Truth.f (t161 == 0)).bind fun t162 => (if t160 = t162 then ((handshakerlaw01_awake.f).bind fun t163 => (some t163)) else (some false))))) else (some false))))) else (some false)))) else (some false)) else (if t139 = t140 then (some false) else (if t141 = 1 then (if a2 = true then (if t141 = 0 then ((span_Sub.f a0 a1).bind fun t164 => ((span_Add.f t164 a1).bind fun t165 => ((span_Wrap.f a0).bind fun t166 => (if t165 = t166 then ((span_Truth.f false).bind fun t167 => ((span_Sub.f a1 a0).bind fun t168 => ((span_Truth.f (t168 == 0)).bind fun t169 => (if t167 = t169 then ((handshakerlaw01_awake.f).bind fun t170 => (some t170)) else (some false))))) else (some false))))) else ((span_Sub.f a0 a1).bind fun t171 => ((span_Add.f t171 a1).bind fun t172 => ((span_Wrap.f a0).bind fun t173 => (if t172 = t173 then ((span_Truth.f false).bind fun t174 => ((span_Sub.f a1 a0).bind fun t175 => ((span_Truth.f (t175 == 0)).bind fun t176 => (if t174 = t176 then ((handshakerlaw01_awake.f).bind fun t177 => (some t177)) else (some false))))) else (some false)))))) else (some false)) else (if a2 = true then (some false) else (if t141 = 0 then ((span_Sub.f a0 a1).bind fun t178 => ((span_Add.f t178 a1).bind fun t179 => ((span_Wrap.f a0).bind fun t180 => (if t179 = t180 then ((span_Truth.f false).bind fun t181 => ((span_Sub.f a1 a0).bind fun t182 => ((span_Truth.f (t182 == 0)).bind fun t183 => (if t181 = t183 then ((handshakerlaw01_awake.f).bind fun t184 => (some t184)) else (some false))))) else (some false))))) else (some false)))))))) = some r := H
  have A5 := Aside0.mk A50
  clear A50
  replace H := Option.bind_eq_some_iff.mp H
  obtain ⟨t141, A60, H⟩ := H
  replace H : ((span_Sub.f a0 a1).bind fun t142 => (if t142 = 0 then (if t139 = t140 then (if t141 = 1 then (if a2 = true then (if t141 = 0 then ((span_Sub.f a0 a1).bind fun t143 => ((span_Add.f t143 a1).bind fun t144 => ((span_Wrap.f a0).bind fun t145 => (if t144 = t145 then ((span_Truth.f true).bind fun t146 => ((span_Sub.f a1 a0).bind fun t147 => ((span_Truth.f (t147 == 0)).bind fun t148 => (if t146 = t148 then ((handshakerlaw01_awake.f).bind fun t149 => (some t149)) else (some false))))) else (some false))))) else ((span_Sub.f a0 a1).bind fun t150 => ((span_Add.f t150 a1).bind fun t151 => ((span_Wrap.f a0).bind fun t152 => (if t151 = t152 then ((span_Truth.f true).bind fun t153 => ((span_Sub.f a1 a0).bind fun t154 => ((span_Truth.f (t154 == 0)).bind fun t155 => (if t153 = t155 then ((handshakerlaw01_awake.f).bind fun t156 => (some t156)) else (some false))))) else (some false)))))) else (some false)) else (if a2 = true then (some false) else (if t141 = 0 then ((span_Sub.f a0 a1).bind fun t157 => ((span_Add.f t157 a1).bind fun t158 => ((span_Wrap.f a0).bind fun t159 => (if t158 = t159 then ((span_Truth.f true).bind fun t160 => ((span_Sub.f a1 a0).bind fun t161 => ((span_Truth.f (t161 == 0)).bind fun t162 => (if t160 = t162 then ((handshakerlaw01_awake.f).bind fun t163 => (some t163)) else (some false))))) else (some false))))) else (some false)))) else (some false)) else (if t139 = t140 then (some false) else (if t141 = 1 then (if a2 = true then (if t141 = 0 then ((span_Sub.f a0 a1).bind fun t164 => ((span_Add.f t164 a1).bind fun t165 => ((span_Wrap.f a0).bind fun t166 => (if t165 = t166 then ((span_Truth.f false).bind fun t167 => ((span_Sub.f a1 a0).bind fun t168 => ((span_Truth.f (t168 == 0)).bind fun t169 => (if t167 = t169 then ((handshakerlaw01_awake.f).bind fun t170 => (some t170)) else (some false))))) else (some false))))) else ((span_Sub.f a0 a1).bind fun t171 => ((span_Add.f t171 a1).bind fun t172 => ((span_Wrap.f a0).bind fun t173 => (if t172 = t173 then ((span_Truth.f false).bind fun t174 => ((span_Sub.f a1 a0).bind fun t175 => ((span_Truth.f (t175 == 0)).bind fun t176 => (if t174 = t176 then ((handshakerlaw01_awake.f).bind fun t177 => (some t177)) else (some false))))) else (some false)))))) else (some false)) else (if a2 = true then (some false) else (if t141 = 0 then ((span_Sub.f a0 a1).bind fun t178 => ((span_Add.f t178 a1).bind fun t179 => ((span_Wrap.f a0).bind fun t180 => (if t179 = t180 then ((span_Truth.f false).bind fun t181 => ((span_Sub.f a1 a0).bind fun t182 => ((span_Truth.f (t182 == 0)).bind fun t183 => (if t181 = t183 then ((handshakerlaw01_awake.f).bind fun t184 => (some t184)) else (some false))))) else (some false))))) else (some false))))))) = some r := H
  have A6 := Aside0.mk A60
  clear A60
  replace H := Option.bind_eq_some_iff.mp H
  obtain ⟨t142, A70, H⟩ := H
  replace H : (if t142 = 0 then (if t139 = t140 then (if t141 = 1 then (if a2 = true then (if t141 = 0 then ((span_Sub.f a0 a1).bind fun t143 => ((span_Add.f t143 a1).bind fun t144 => ((span_Wrap.f a0).bind fun t145 => (if t144 = t145 then ((span_Truth.f true).bind fun t146 => ((span_Sub.f a1 a0).bind fun t147 => ((span_Truth.f (t147 == 0)).bind fun t148 => (if t146 = t148 then ((handshakerlaw01_awake.f).bind fun t149 => (some t149)) else (some false))))) else (some false))))) else ((span_Sub.f a0 a1).bind fun t150 => ((span_Add.f t150 a1).bind fun t151 => ((span_Wrap.f a0).bind fun t152 => (if t151 = t152 then ((span_Truth.f true).bind fun t153 => ((span_Sub.f a1 a0).bind fun t154 => ((span_Truth.f (t154 == 0)).bind fun t155 => (if t153 = t155 then ((handshakerlaw01_awake.f).bind fun t156 => (some t156)) else (some false))))) else (some false)))))) else (some false)) else (if a2 = true then (some false) else (if t141 = 0 then ((span_Sub.f a0 a1).bind fun t157 => ((span_Add.f t157 a1).bind fun t158 => ((span_Wrap.f a0).bind fun t159 => (if t158 = t159 then ((span_Truth.f true).bind fun t160 => ((span_Sub.f a1 a0).bind fun t161 => ((span_Truth.f (t161 == 0)).bind fun t162 => (if t160 = t162 then ((handshakerlaw01_awake.f).bind fun t163 => (some t163)) else (some false))))) else (some false))))) else (some false)))) else (some false)) else (if t139 = t140 then (some false) else (if t141 = 1 then (if a2 = true then (if t141 = 0 then ((span_Sub.f a0 a1).bind fun t164 => ((span_Add.f t164 a1).bind fun t165 => ((span_Wrap.f a0).bind fun t166 => (if t165 = t166 then ((span_Truth.f false).bind fun t167 => ((span_Sub.f a1 a0).bind fun t168 => ((span_Truth.f (t168 == 0)).bind fun t169 => (if t167 = t169 then ((handshakerlaw01_awake.f).bind fun t170 => (some t170)) else (some false))))) else (some false))))) else ((span_Sub.f a0 a1).bind fun t171 => ((span_Add.f t171 a1).bind fun t172 => ((span_Wrap.f a0).bind fun t173 => (if t172 = t173 then ((span_Truth.f false).bind fun t174 => ((span_Sub.f a1 a0).bind fun t175 => ((span_Truth.f (t175 == 0)).bind fun t176 => (if t174 = t176 then ((handshakerlaw01_awake.f).bind fun t177 => (some t177)) else (some false))))) else (some false)))))) else (some false)) else (if a2 = true then (some false) else (if t141 = 0 then ((span_Sub.f a0 a1).bind fun t178 => ((span_Add.f t178 a1).bind fun t179 => ((span_Wrap.f a0).bind fun t180 => (if t179 = t180 then ((span_Truth.f false).bind fun t181 => ((span_Sub.f a1 a0).bind fun t182 => ((span_Truth.f (t182 == 0)).bind fun t183 => (if t181 = t183 then ((handshakerlaw01_awake.f).bind fun t184 => (some t184)) else (some false))))) else (some false))))) else (some false)))))) = some r := H
  have A7 := Aside0.mk A70
  clear A70
  by_cases c8 : t142 = 0
  · rw [if_pos c8] at H
    have c8b0 : (t142 == 0) = true := beq_iff_eq.mpr c8
    have c8b1 : (t142 != 0) = false := bne_eq_false_iff_eq.mpr c8
    clear c8
    by_cases c9 : t139 = t140
    · rw [if_pos c9] at H
      have c9b0 : (t139 == t140) = true := beq_iff_eq.mpr c9
      have c9b1 : (t139 != t140) = false := bne_eq_false_iff_eq.mpr c9
      clear c9
      by_cases c10 : t141 = 1
      · rw [if_pos c10] at H
        have c10b0 : (t141 == 1) = true := beq_iff_eq.mpr c10
        have c10b1 : (t141 != 1) = false := bne_eq_false_iff_eq.mpr c10
        clear c10
        by_cases c11 : a2 = true
        · subst c11
          have H1 : (if t141 = 0 then ((span_Sub.f a0 a1).bind fun t143 => ((span_Add.f t143 a1).bind fun t144 => ((span_Wrap.f a0).bind fun t145 => (if t144 = t145 then ((span_Truth.f true).bind fun t146 => ((span_Sub.f a1 a0).bind fun t147 => ((span_Truth.f (t147 == 0)).bind fun t148 => (if t146 = t148 then ((handshakerlaw01_awake.f).bind fun t149 => (some t149)) else (some false))))) else (some false))))) else ((span_Sub.f a0 a1).bind fun t150 => ((span_Add.f t150 a1).bind fun t151 => ((span_Wrap.f a0).bind fun t152 => (if t151 = t152 then ((span_Truth.f true).bind fun t153 => ((span_Sub.f a1 a0).bind fun t154 => ((span_Truth.f (t154 == 0)).bind fun t155 => (if t153 = t155 then ((handshakerlaw01_awake.f).bind fun t156 => (some t156)) else (some false))))) else (some false)))))) = some r := by rw [if_pos rfl] at H; exact H
          clear H
          have H := H1
          clear H1
          by_cases c12 : t141 = 0
          · rw [if_pos c12] at H
            have c12b0 : (t141 == 0) = true := beq_iff_eq.mpr c12
            have c12b1 : (t141 != 0) = false := bne_eq_false_iff_eq.mpr c12
            clear c12
            replace H := Option.bind_eq_some_iff.mp H
            obtain ⟨t143, A130, H⟩ := H
            replace H : ((span_Add.f t143 a1).bind fun t144 => ((span_Wrap.f a0).bind fun t145 => (if t144 = t145 then ((span_Truth.f true).bind fun t146 => ((span_Sub.f a1 a0).bind fun t147 => ((span_Truth.f (t147 == 0)).bind fun t148 => (if t146 = t148 then ((handshakerlaw01_awake.f).bind fun t149 => (some t149)) else (some false))))) else (some false)))) = some r := H
            have A13 := Aside0.mk A130
            clear A130
            replace H := Option.bind_eq_some_iff.mp H
            obtain ⟨t144, A140, H⟩ := H
            replace H : ((span_Wrap.f a0).bind fun t145 => (if t144 = t145 then ((span_Truth.f true).bind fun t146 => ((span_Sub.f a1 a0).bind fun t147 => ((span_Truth.f (t147 == 0)).bind fun t148 => (if t146 = t148 then ((handshakerlaw01_awake.f).bind fun t149 => (some t149)) else (some false))))) else (some false))) = some r := H
            have A14 := Aside0.mk A140
            clear A140
            replace H := Option.bind_eq_some_iff.mp H
            obtain ⟨t145, A150, H⟩ := H
            replace H : (if t144 = t145 then ((span_Truth.f true).bind fun t146 => ((span_Sub.f a1 a0).bind fun t147 => ((span_Truth.f (t147 == 0)).bind fun t148 => (if t146 = t148 then ((handshakerlaw01_awake.f).bind fun t149 => (some t149)) else (some false))))) else (some false)) = some r := H
            have A15 := Aside0.mk A150
            clear A150
            by_cases c16 : t144 = t145
            · rw [if_pos c16] at H
              have c16b0 : (t144 == t145) = true := beq_iff_eq.mpr c16
              have c16b1 : (t144 != t145) = false := bne_eq_false_iff_eq.mpr c16
              clear c16
              replace H := Option.bind_eq_some_iff.mp H
              obtain ⟨t146, A170, H⟩ := H
              replace H : ((span_Sub.f a1 a0).bind fun t147 => ((span_Truth.f (t147 == 0)).bind fun t148 => (if t146 = t148 then ((handshakerlaw01_awake.f).bind fun t149 => (some t149)) else (some false)))) = some r := H
              have A17 := Aside0.mk A170
              clear A170
              replace H := Option.bind_eq_some_iff.mp H
              obtain ⟨t147, A180, H⟩ := H
              replace H : ((span_Truth.f (t147 == 0)).bind fun t148 => (if t146 = t148 then ((handshakerlaw01_awake.f).bind fun t149 => (some t149)) else (some false))) = some r := H
              have A18 := Aside0.mk A180
              clear A180
              replace H := Option.bind_eq_some_iff.mp H
              obtain ⟨t148, A190, H⟩ := H
              replace H : (if t146 = t148 then ((handshakerlaw01_awake.f).bind fun t149 => (some t149)) else (some false)) = some r := H
              have A19 := Aside0.mk A190
              clear A190
              by_cases c20 : t146 = t148
              · rw [if_pos c20] at H
                have c20b0 : (t146 == t148) = true := beq_iff_eq.mpr c20
                have c20b1 : (t146 != t148) = false := bne_eq_false_iff_eq.mpr c20
                clear c20
                replace H := Option.bind_eq_some_iff.mp H
                obtain ⟨t149, A210, H⟩ := H
                replace H : (some t149) = some r := H
                have A21 := Aside0.mk A210
                clear A210
                obtain rfl := Option.some.inj H
                go_enter Try.func7, Try.ntmps7
                go_wp2_with (first | ((with_reducible refine gate_callee (f := 18) rfl ?_); refine goesL_ (some 10) rfl rfl Try.func18 (by kernel_rfl) rfl #[.int .i64 a0] rfl (by (try simp only [List.map_toArray, List.map_cons, List.map_nil]); first | done | rfl | (simp only [List.length_drop, List.length_take]; rfl)) ?_; (with_reducible refine (span_Wrap.calls a0 t139 _ A4.out).mono ?_); rintro e w' ⟨rfl, ⟨nd, rfl⟩⟩; refine ⟨_, rfl, ?_⟩) | ((with_reducible refine gate_callee (f := 18) rfl ?_); refine goesL_ (some 12) rfl rfl Try.func18 (by kernel_rfl) rfl #[.int .i64 a1] rfl (by (try simp only [List.map_toArray, List.map_cons, List.map_nil]); first | done | rfl | (simp only [List.length_drop, List.length_take]; rfl)) ?_; (with_reducible refine (span_Wrap.calls a1 t140 _ A5.out).mono ?_); rintro e w' ⟨rfl, ⟨nd, rfl⟩⟩; refine ⟨_, rfl, ?_⟩) | ((with_reducible refine gate_callee (f := 24) rfl ?_); refine goesL_ (some 15) rfl rfl Try.func24 (by kernel_rfl) rfl #[.bool true] rfl (by (try simp only [List.map_toArray, List.map_cons, List.map_nil]); first | done | rfl | (simp only [List.length_drop, List.length_take]; rfl)) ?_; (with_reducible refine (span_Truth.calls true t141 _ A6.out).mono ?_); rintro e w' ⟨rfl, ⟨nd, rfl⟩⟩; refine ⟨_, rfl, ?_⟩) | ((with_reducible refine gate_callee (f := 20) rfl ?_); refine goesL_ (some 18) rfl rfl Try.func20 (by kernel_rfl) rfl #[.int .i64 a0, .int .i64 a1] rfl (by (try simp only [List.map_toArray, List.map_cons, List.map_nil]); first | done | rfl | (simp only [List.length_drop, List.length_take]; rfl)) ?_; (with_reducible refine (span_Sub.calls a0 a1 t142 _ A7.out).mono ?_); rintro e w' ⟨rfl, ⟨nd, rfl⟩⟩; refine ⟨_, rfl, ?_⟩) | ((with_reducible refine gate_callee (f := 20) rfl ?_); refine goesG_ (some 39) rfl Try.func20 (by kernel_rfl) rfl #[.int .i64 a0, .int .i64 a1] rfl (by first | rfl | (go_simp; done) | (simp [Region.wanted, yielded]; done)) (by (try simp only [List.map_toArray, List.map_cons, List.map_nil]); first | done | rfl | (simp only [List.length_drop, List.length_take]; rfl)) ?_; (with_reducible refine (span_Sub.calls a0 a1 t143 _ A13.out).mono ?_); rintro e w' ⟨rfl, ⟨nd, rfl⟩⟩; refine ⟨_, rfl, ?_⟩) | ((with_reducible refine gate_callee (f := 19) rfl ?_); refine goesG_ (some 41) rfl Try.func19 (by kernel_rfl) rfl #[.int .i64 t143, .int .i64 a1] rfl (by first | rfl | (go_simp; done) | (simp [Region.wanted, yielded]; done)) (by (try simp only [List.map_toArray, List.map_cons, List.map_nil]); first | done | rfl | (simp only [List.length_drop, List.length_take]; rfl)) ?_; (with_reducible refine (span_Add.calls t143 a1 t144 _ A14.out).mono ?_); rintro e w' ⟨rfl, ⟨nd, rfl⟩⟩; refine ⟨_, rfl, ?_⟩) | ((with_reducible refine gate_callee (f := 18) rfl ?_); refine goesG_ (some 43) rfl Try.func18 (by kernel_rfl) rfl #[.int .i64 a0] rfl (by first | rfl | (go_simp; done) | (simp [Region.wanted, yielded]; done)) (by (try simp only [List.map_toArray, List.map_cons, List.map_nil]); first | done | rfl | (simp only [List.length_drop, List.length_take]; rfl)) ?_; (with_reducible refine (span_Wrap.calls a0 t145 _ A15.out).mono ?_); rintro e w' ⟨rfl, ⟨nd, rfl⟩⟩; refine ⟨_, rfl, ?_⟩) | ((with_reducible refine gate_callee (f := 24) rfl ?_); refine goesG_ (some 48) rfl Try.func24 (by kernel_rfl) rfl #[.bool true] rfl (by first | rfl | (go_simp; done) | (simp [Region.wanted, yielded]; done)) (by (try simp only [List.map_toArray, List.map_cons, List.map_nil]); first | done | rfl | (simp only [List.length_drop, List.length_take]; rfl)) ?_; (with_reducible refine (span_Truth.calls true t146 _ A17.out).mono ?_); rintro e w' ⟨rfl, ⟨nd, rfl⟩⟩; refine ⟨_, rfl, ?_⟩) | ((with_reducible refine gate_callee (f := 20) rfl ?_); refine goesG_ (some 51) rfl Try.func20 (by kernel_rfl) rfl #[.int .i64 a1, .int .i64 a0] rfl (by first | rfl | (go_simp; done) | (simp [Region.wanted, yielded]; done)) (by (try simp only [List.map_toArray, List.map_cons, List.map_nil]); first | done | rfl | (simp only [List.length_drop, List.length_take]; rfl)) ?_; (with_reducible refine (span_Sub.calls a1 a0 t147 _ A18.out).mono ?_); rintro e w' ⟨rfl, ⟨nd, rfl⟩⟩; refine ⟨_, rfl, ?_⟩) | ((with_reducible refine gate_callee (f := 24) rfl ?_); refine goesG_ (some 53) rfl Try.func24 (by kernel_rfl) rfl #[.bool (t147 == 0)] rfl (by first | rfl | (go_simp; done) | (simp [Region.wanted, yielded]; done)) (by (try simp only [List.map_toArray, List.map_cons, List.map_nil]); first | done | rfl | (simp only [List.length_drop, List.length_take]; rfl)) ?_; (with_reducible refine (span_Truth.calls (t147 == 0) t148 _ A19.out).mono ?_); rintro e w' ⟨rfl, ⟨nd, rfl⟩⟩; refine ⟨_, rfl, ?_⟩) | ((with_reducible refine gate_callee (f := 23) rfl ?_); refine goesG_ (some 57) rfl Try.func23 (by kernel_rfl) rfl #[] rfl (by first | rfl | (go_simp; done) | (simp [Region.wanted, yielded]; done)) (by (try simp only [List.map_toArray, List.map_cons, List.map_nil]); first | done | rfl | (simp only [List.length_drop, List.length_take]; rfl)) ?_; (with_reducible refine (handshakerlaw01_awake.calls  t149 _ A21.out).mono ?_); rintro e w' ⟨rfl, ⟨nd, rfl⟩⟩; refine ⟨_, rfl, ?_⟩))
                go_ret
                exact ⟨by first | rfl | (simp; done) | (simp [*]; done), by repeat (first | exact Drawn0.refl _ | apply Drawn0.step)⟩
              · rw [if_neg c20] at H
                have c20b0 : (t146 == t148) = false := beq_eq_false_iff_ne.mpr c20
                have c20b1 : (t146 != t148) = true := bne_iff_ne.mpr c20
                exact absurd (Option.some.inj H) (by rw [HT.out]; decide)
            · rw [if_neg c16] at H
              have c16b0 : (t144 == t145) = false := beq_eq_false_iff_ne.mpr c16
              have c16b1 : (t144 != t145) = true := bne_iff_ne.mpr c16
              exact absurd (Option.some.inj H) (by rw [HT.out]; decide)
          · rw [if_neg c12] at H
            have c12b0 : (t141 == 0) = false := beq_eq_false_iff_ne.mpr c12
            have c12b1 : (t141 != 0) = true := bne_iff_ne.mpr c12
            replace H := Option.bind_eq_some_iff.mp H
            obtain ⟨t150, A220, H⟩ := H
            replace H : ((span_Add.f t150 a1).bind fun t151 => ((span_Wrap.f a0).bind fun t152 => (if t151 = t152 then ((span_Truth.f true).bind fun t153 => ((span_Sub.f a1 a0).bind fun t154 => ((span_Truth.f (t154 == 0)).bind fun t155 => (if t153 = t155 then ((handshakerlaw01_awake.f).bind fun t156 => (some t156)) else (some false))))) else (some false)))) = some r := H
            have A22 := Aside0.mk A220
            clear A220
            replace H := Option.bind_eq_some_iff.mp H
            obtain ⟨t151, A230, H⟩ := H
            replace H : ((span_Wrap.f a0).bind fun t152 => (if t151 = t152 then ((span_Truth.f true).bind fun t153 => ((span_Sub.f a1 a0).bind fun t154 => ((span_Truth.f (t154 == 0)).bind fun t155 => (if t153 = t155 then ((handshakerlaw01_awake.f).bind fun t156 => (some t156)) else (some false))))) else (some false))) = some r := H
            have A23 := Aside0.mk A230
            clear A230
            replace H := Option.bind_eq_some_iff.mp H
            obtain ⟨t152, A240, H⟩ := H
            replace H : (if t151 = t152 then ((span_Truth.f true).bind fun t153 => ((span_Sub.f a1 a0).bind fun t154 => ((span_Truth.f (t154 == 0)).bind fun t155 => (if t153 = t155 then ((handshakerlaw01_awake.f).bind fun t156 => (some t156)) else (some false))))) else (some false)) = some r := H
            have A24 := Aside0.mk A240
            clear A240
            by_cases c25 : t151 = t152
            · rw [if_pos c25] at H
              have c25b0 : (t151 == t152) = true := beq_iff_eq.mpr c25
              have c25b1 : (t151 != t152) = false := bne_eq_false_iff_eq.mpr c25
              clear c25
              replace H := Option.bind_eq_some_iff.mp H
              obtain ⟨t153, A260, H⟩ := H
              replace H : ((span_Sub.f a1 a0).bind fun t154 => ((span_Truth.f (t154 == 0)).bind fun t155 => (if t153 = t155 then ((handshakerlaw01_awake.f).bind fun t156 => (some t156)) else (some false)))) = some r := H
              have A26 := Aside0.mk A260
              clear A260
              replace H := Option.bind_eq_some_iff.mp H
              obtain ⟨t154, A270, H⟩ := H
              replace H : ((span_Truth.f (t154 == 0)).bind fun t155 => (if t153 = t155 then ((handshakerlaw01_awake.f).bind fun t156 => (some t156)) else (some false))) = some r := H
              have A27 := Aside0.mk A270
              clear A270
              replace H := Option.bind_eq_some_iff.mp H
              obtain ⟨t155, A280, H⟩ := H
              replace H : (if t153 = t155 then ((handshakerlaw01_awake.f).bind fun t156 => (some t156)) else (some false)) = some r := H
              have A28 := Aside0.mk A280
              clear A280
              by_cases c29 : t153 = t155
              · rw [if_pos c29] at H
                have c29b0 : (t153 == t155) = true := beq_iff_eq.mpr c29
                have c29b1 : (t153 != t155) = false := bne_eq_false_iff_eq.mpr c29
                clear c29
                replace H := Option.bind_eq_some_iff.mp H
                obtain ⟨t156, A300, H⟩ := H
                replace H : (some t156) = some r := H
                have A30 := Aside0.mk A300
                clear A300
                obtain rfl := Option.some.inj H
                go_enter Try.func7, Try.ntmps7
                go_wp2_with (first | ((with_reducible refine gate_callee (f := 18) rfl ?_); refine goesL_ (some 10) rfl rfl Try.func18 (by kernel_rfl) rfl #[.int .i64 a0] rfl (by (try simp only [List.map_toArray, List.map_cons, List.map_nil]); first | done | rfl | (simp only [List.length_drop, List.length_take]; rfl)) ?_; (with_reducible refine (span_Wrap.calls a0 t139 _ A4.out).mono ?_); rintro e w' ⟨rfl, ⟨nd, rfl⟩⟩; refine ⟨_, rfl, ?_⟩) | ((with_reducible refine gate_callee (f := 18) rfl ?_); refine goesL_ (some 12) rfl rfl Try.func18 (by kernel_rfl) rfl #[.int .i64 a1] rfl (by (try simp only [List.map_toArray, List.map_cons, List.map_nil]); first | done | rfl | (simp only [List.length_drop, List.length_take]; rfl)) ?_; (with_reducible refine (span_Wrap.calls a1 t140 _ A5.out).mono ?_); rintro e w' ⟨rfl, ⟨nd, rfl⟩⟩; refine ⟨_, rfl, ?_⟩) | ((with_reducible refine gate_callee (f := 24) rfl ?_); refine goesL_ (some 15) rfl rfl Try.func24 (by kernel_rfl) rfl #[.bool true] rfl (by (try simp only [List.map_toArray, List.map_cons, List.map_nil]); first | done | rfl | (simp only [List.length_drop, List.length_take]; rfl)) ?_; (with_reducible refine (span_Truth.calls true t141 _ A6.out).mono ?_); rintro e w' ⟨rfl, ⟨nd, rfl⟩⟩; refine ⟨_, rfl, ?_⟩) | ((with_reducible refine gate_callee (f := 20) rfl ?_); refine goesL_ (some 18) rfl rfl Try.func20 (by kernel_rfl) rfl #[.int .i64 a0, .int .i64 a1] rfl (by (try simp only [List.map_toArray, List.map_cons, List.map_nil]); first | done | rfl | (simp only [List.length_drop, List.length_take]; rfl)) ?_; (with_reducible refine (span_Sub.calls a0 a1 t142 _ A7.out).mono ?_); rintro e w' ⟨rfl, ⟨nd, rfl⟩⟩; refine ⟨_, rfl, ?_⟩) | ((with_reducible refine gate_callee (f := 20) rfl ?_); refine goesG_ (some 39) rfl Try.func20 (by kernel_rfl) rfl #[.int .i64 a0, .int .i64 a1] rfl (by first | rfl | (go_simp; done) | (simp [Region.wanted, yielded]; done)) (by (try simp only [List.map_toArray, List.map_cons, List.map_nil]); first | done | rfl | (simp only [List.length_drop, List.length_take]; rfl)) ?_; (with_reducible refine (span_Sub.calls a0 a1 t150 _ A22.out).mono ?_); rintro e w' ⟨rfl, ⟨nd, rfl⟩⟩; refine ⟨_, rfl, ?_⟩) | ((with_reducible refine gate_callee (f := 19) rfl ?_); refine goesG_ (some 41) rfl Try.func19 (by kernel_rfl) rfl #[.int .i64 t150, .int .i64 a1] rfl (by first | rfl | (go_simp; done) | (simp [Region.wanted, yielded]; done)) (by (try simp only [List.map_toArray, List.map_cons, List.map_nil]); first | done | rfl | (simp only [List.length_drop, List.length_take]; rfl)) ?_; (with_reducible refine (span_Add.calls t150 a1 t151 _ A23.out).mono ?_); rintro e w' ⟨rfl, ⟨nd, rfl⟩⟩; refine ⟨_, rfl, ?_⟩) | ((with_reducible refine gate_callee (f := 18) rfl ?_); refine goesG_ (some 43) rfl Try.func18 (by kernel_rfl) rfl #[.int .i64 a0] rfl (by first | rfl | (go_simp; done) | (simp [Region.wanted, yielded]; done)) (by (try simp only [List.map_toArray, List.map_cons, List.map_nil]); first | done | rfl | (simp only [List.length_drop, List.length_take]; rfl)) ?_; (with_reducible refine (span_Wrap.calls a0 t152 _ A24.out).mono ?_); rintro e w' ⟨rfl, ⟨nd, rfl⟩⟩; refine ⟨_, rfl, ?_⟩) | ((with_reducible refine gate_callee (f := 24) rfl ?_); refine goesG_ (some 48) rfl Try.func24 (by kernel_rfl) rfl #[.bool true] rfl (by first | rfl | (go_simp; done) | (simp [Region.wanted, yielded]; done)) (by (try simp only [List.map_toArray, List.map_cons, List.map_nil]); first | done | rfl | (simp only [List.length_drop, List.length_take]; rfl)) ?_; (with_reducible refine (span_Truth.calls true t153 _ A26.out).mono ?_); rintro e w' ⟨rfl, ⟨nd, rfl⟩⟩; refine ⟨_, rfl, ?_⟩) | ((with_reducible refine gate_callee (f := 20) rfl ?_); refine goesG_ (some 51) rfl Try.func20 (by kernel_rfl) rfl #[.int .i64 a1, .int .i64 a0] rfl (by first | rfl | (go_simp; done) | (simp [Region.wanted, yielded]; done)) (by (try simp only [List.map_toArray, List.map_cons, List.map_nil]); first | done | rfl | (simp only [List.length_drop, List.length_take]; rfl)) ?_; (with_reducible refine (span_Sub.calls a1 a0 t154 _ A27.out).mono ?_); rintro e w' ⟨rfl, ⟨nd, rfl⟩⟩; refine ⟨_, rfl, ?_⟩) | ((with_reducible refine gate_callee (f := 24) rfl ?_); refine goesG_ (some 53) rfl Try.func24 (by kernel_rfl) rfl #[.bool (t154 == 0)] rfl (by first | rfl | (go_simp; done) | (simp [Region.wanted, yielded]; done)) (by (try simp only [List.map_toArray, List.map_cons, List.map_nil]); first | done | rfl | (simp only [List.length_drop, List.length_take]; rfl)) ?_; (with_reducible refine (span_Truth.calls (t154 == 0) t155 _ A28.out).mono ?_); rintro e w' ⟨rfl, ⟨nd, rfl⟩⟩; refine ⟨_, rfl, ?_⟩) | ((with_reducible refine gate_callee (f := 23) rfl ?_); refine goesG_ (some 57) rfl Try.func23 (by kernel_rfl) rfl #[] rfl (by first | rfl | (go_simp; done) | (simp [Region.wanted, yielded]; done)) (by (try simp only [List.map_toArray, List.map_cons, List.map_nil]); first | done | rfl | (simp only [List.length_drop, List.length_take]; rfl)) ?_; (with_reducible refine (handshakerlaw01_awake.calls  t156 _ A30.out).mono ?_); rintro e w' ⟨rfl, ⟨nd, rfl⟩⟩; refine ⟨_, rfl, ?_⟩))
                go_ret
                exact ⟨by first | rfl | (simp; done) | (simp [*]; done), by repeat (first | exact Drawn0.refl _ | apply Drawn0.step)⟩
              · rw [if_neg c29] at H
                have c29b0 : (t153 == t155) = false := beq_eq_false_iff_ne.mpr c29
                have c29b1 : (t153 != t155) = true := bne_iff_ne.mpr c29
                exact absurd (Option.some.inj H) (by rw [HT.out]; decide)
            · rw [if_neg c25] at H
              have c25b0 : (t151 == t152) = false := beq_eq_false_iff_ne.mpr c25
              have c25b1 : (t151 != t152) = true := bne_iff_ne.mpr c25
              exact absurd (Option.some.inj H) (by rw [HT.out]; decide)
        · replace c11 := Bool.eq_false_iff.mpr c11
          subst c11
          have H1 : (some false) = some r := by rw [if_neg (show ¬ (false = true) by decide)] at H; exact H
          clear H
          have H := H1
          clear H1
          exact absurd (Option.some.inj H) (by rw [HT.out]; decide)
      · rw [if_neg c10] at H
        have c10b0 : (t141 == 1) = false := beq_eq_false_iff_ne.mpr c10
        have c10b1 : (t141 != 1) = true := bne_iff_ne.mpr c10
        by_cases c31 : a2 = true
        · subst c31
          have H1 : (some false) = some r := by rw [if_pos rfl] at H; exact H
          clear H
          have H := H1
          clear H1
          exact absurd (Option.some.inj H) (by rw [HT.out]; decide)
        · replace c31 := Bool.eq_false_iff.mpr c31
          subst c31
          have H1 : (if t141 = 0 then ((span_Sub.f a0 a1).bind fun t157 => ((span_Add.f t157 a1).bind fun t158 => ((span_Wrap.f a0).bind fun t159 => (if t158 = t159 then ((span_Truth.f true).bind fun t160 => ((span_Sub.f a1 a0).bind fun t161 => ((span_Truth.f (t161 == 0)).bind fun t162 => (if t160 = t162 then ((handshakerlaw01_awake.f).bind fun t163 => (some t163)) else (some false))))) else (some false))))) else (some false)) = some r := by rw [if_neg (show ¬ (false = true) by decide)] at H; exact H
          clear H
          have H := H1
          clear H1
          by_cases c32 : t141 = 0
          · rw [if_pos c32] at H
            have c32b0 : (t141 == 0) = true := beq_iff_eq.mpr c32
            have c32b1 : (t141 != 0) = false := bne_eq_false_iff_eq.mpr c32
            clear c32
            replace H := Option.bind_eq_some_iff.mp H
            obtain ⟨t157, A330, H⟩ := H
            replace H : ((span_Add.f t157 a1).bind fun t158 => ((span_Wrap.f a0).bind fun t159 => (if t158 = t159 then ((span_Truth.f true).bind fun t160 => ((span_Sub.f a1 a0).bind fun t161 => ((span_Truth.f (t161 == 0)).bind fun t162 => (if t160 = t162 then ((handshakerlaw01_awake.f).bind fun t163 => (some t163)) else (some false))))) else (some false)))) = some r := H
            have A33 := Aside0.mk A330
            clear A330
            replace H := Option.bind_eq_some_iff.mp H
            obtain ⟨t158, A340, H⟩ := H
            replace H : ((span_Wrap.f a0).bind fun t159 => (if t158 = t159 then ((span_Truth.f true).bind fun t160 => ((span_Sub.f a1 a0).bind fun t161 => ((span_Truth.f (t161 == 0)).bind fun t162 => (if t160 = t162 then ((handshakerlaw01_awake.f).bind fun t163 => (some t163)) else (some false))))) else (some false))) = some r := H
            have A34 := Aside0.mk A340
            clear A340
            replace H := Option.bind_eq_some_iff.mp H
            obtain ⟨t159, A350, H⟩ := H
            replace H : (if t158 = t159 then ((span_Truth.f true).bind fun t160 => ((span_Sub.f a1 a0).bind fun t161 => ((span_Truth.f (t161 == 0)).bind fun t162 => (if t160 = t162 then ((handshakerlaw01_awake.f).bind fun t163 => (some t163)) else (some false))))) else (some false)) = some r := H
            have A35 := Aside0.mk A350
            clear A350
            by_cases c36 : t158 = t159
            · rw [if_pos c36] at H
              have c36b0 : (t158 == t159) = true := beq_iff_eq.mpr c36
              have c36b1 : (t158 != t159) = false := bne_eq_false_iff_eq.mpr c36
              clear c36
              replace H := Option.bind_eq_some_iff.mp H
              obtain ⟨t160, A370, H⟩ := H
              replace H : ((span_Sub.f a1 a0).bind fun t161 => ((span_Truth.f (t161 == 0)).bind fun t162 => (if t160 = t162 then ((handshakerlaw01_awake.f).bind fun t163 => (some t163)) else (some false)))) = some r := H
              have A37 := Aside0.mk A370
              clear A370
              replace H := Option.bind_eq_some_iff.mp H
              obtain ⟨t161, A380, H⟩ := H
              replace H : ((span_Truth.f (t161 == 0)).bind fun t162 => (if t160 = t162 then ((handshakerlaw01_awake.f).bind fun t163 => (some t163)) else (some false))) = some r := H
              have A38 := Aside0.mk A380
              clear A380
              replace H := Option.bind_eq_some_iff.mp H
              obtain ⟨t162, A390, H⟩ := H
              replace H : (if t160 = t162 then ((handshakerlaw01_awake.f).bind fun t163 => (some t163)) else (some false)) = some r := H
              have A39 := Aside0.mk A390
              clear A390
              by_cases c40 : t160 = t162
              · rw [if_pos c40] at H
                have c40b0 : (t160 == t162) = true := beq_iff_eq.mpr c40
                have c40b1 : (t160 != t162) = false := bne_eq_false_iff_eq.mpr c40
                clear c40
                replace H := Option.bind_eq_some_iff.mp H
                obtain ⟨t163, A410, H⟩ := H
                replace H : (some t163) = some r := H
                have A41 := Aside0.mk A410
                clear A410
                obtain rfl := Option.some.inj H
                go_enter Try.func7, Try.ntmps7
                go_wp2_with (first | ((with_reducible refine gate_callee (f := 18) rfl ?_); refine goesL_ (some 10) rfl rfl Try.func18 (by kernel_rfl) rfl #[.int .i64 a0] rfl (by (try simp only [List.map_toArray, List.map_cons, List.map_nil]); first | done | rfl | (simp only [List.length_drop, List.length_take]; rfl)) ?_; (with_reducible refine (span_Wrap.calls a0 t139 _ A4.out).mono ?_); rintro e w' ⟨rfl, ⟨nd, rfl⟩⟩; refine ⟨_, rfl, ?_⟩) | ((with_reducible refine gate_callee (f := 18) rfl ?_); refine goesL_ (some 12) rfl rfl Try.func18 (by kernel_rfl) rfl #[.int .i64 a1] rfl (by (try simp only [List.map_toArray, List.map_cons, List.map_nil]); first | done | rfl | (simp only [List.length_drop, List.length_take]; rfl)) ?_; (with_reducible refine (span_Wrap.calls a1 t140 _ A5.out).mono ?_); rintro e w' ⟨rfl, ⟨nd, rfl⟩⟩; refine ⟨_, rfl, ?_⟩) | ((with_reducible refine gate_callee (f := 24) rfl ?_); refine goesL_ (some 15) rfl rfl Try.func24 (by kernel_rfl) rfl #[.bool false] rfl (by (try simp only [List.map_toArray, List.map_cons, List.map_nil]); first | done | rfl | (simp only [List.length_drop, List.length_take]; rfl)) ?_; (with_reducible refine (span_Truth.calls false t141 _ A6.out).mono ?_); rintro e w' ⟨rfl, ⟨nd, rfl⟩⟩; refine ⟨_, rfl, ?_⟩) | ((with_reducible refine gate_callee (f := 20) rfl ?_); refine goesL_ (some 18) rfl rfl Try.func20 (by kernel_rfl) rfl #[.int .i64 a0, .int .i64 a1] rfl (by (try simp only [List.map_toArray, List.map_cons, List.map_nil]); first | done | rfl | (simp only [List.length_drop, List.length_take]; rfl)) ?_; (with_reducible refine (span_Sub.calls a0 a1 t142 _ A7.out).mono ?_); rintro e w' ⟨rfl, ⟨nd, rfl⟩⟩; refine ⟨_, rfl, ?_⟩) | ((with_reducible refine gate_callee (f := 20) rfl ?_); refine goesG_ (some 39) rfl Try.func20 (by kernel_rfl) rfl #[.int .i64 a0, .int .i64 a1] rfl (by first | rfl | (go_simp; done) | (simp [Region.wanted, yielded]; done)) (by (try simp only [List.map_toArray, List.map_cons, List.map_nil]); first | done | rfl | (simp only [List.length_drop, List.length_take]; rfl)) ?_; (with_reducible refine (span_Sub.calls a0 a1 t157 _ A33.out).mono ?_); rintro e w' ⟨rfl, ⟨nd, rfl⟩⟩; refine ⟨_, rfl, ?_⟩) | ((with_reducible refine gate_callee (f := 19) rfl ?_); refine goesG_ (some 41) rfl Try.func19 (by kernel_rfl) rfl #[.int .i64 t157, .int .i64 a1] rfl (by first | rfl | (go_simp; done) | (simp [Region.wanted, yielded]; done)) (by (try simp only [List.map_toArray, List.map_cons, List.map_nil]); first | done | rfl | (simp only [List.length_drop, List.length_take]; rfl)) ?_; (with_reducible refine (span_Add.calls t157 a1 t158 _ A34.out).mono ?_); rintro e w' ⟨rfl, ⟨nd, rfl⟩⟩; refine ⟨_, rfl, ?_⟩) | ((with_reducible refine gate_callee (f := 18) rfl ?_); refine goesG_ (some 43) rfl Try.func18 (by kernel_rfl) rfl #[.int .i64 a0] rfl (by first | rfl | (go_simp; done) | (simp [Region.wanted, yielded]; done)) (by (try simp only [List.map_toArray, List.map_cons, List.map_nil]); first | done | rfl | (simp only [List.length_drop, List.length_take]; rfl)) ?_; (with_reducible refine (span_Wrap.calls a0 t159 _ A35.out).mono ?_); rintro e w' ⟨rfl, ⟨nd, rfl⟩⟩; refine ⟨_, rfl, ?_⟩) | ((with_reducible refine gate_callee (f := 24) rfl ?_); refine goesG_ (some 48) rfl Try.func24 (by kernel_rfl) rfl #[.bool true] rfl (by first | rfl | (go_simp; done) | (simp [Region.wanted, yielded]; done)) (by (try simp only [List.map_toArray, List.map_cons, List.map_nil]); first | done | rfl | (simp only [List.length_drop, List.length_take]; rfl)) ?_; (with_reducible refine (span_Truth.calls true t160 _ A37.out).mono ?_); rintro e w' ⟨rfl, ⟨nd, rfl⟩⟩; refine ⟨_, rfl, ?_⟩) | ((with_reducible refine gate_callee (f := 20) rfl ?_); refine goesG_ (some 51) rfl Try.func20 (by kernel_rfl) rfl #[.int .i64 a1, .int .i64 a0] rfl (by first | rfl | (go_simp; done) | (simp [Region.wanted, yielded]; done)) (by (try simp only [List.map_toArray, List.map_cons, List.map_nil]); first | done | rfl | (simp only [List.length_drop, List.length_take]; rfl)) ?_; (with_reducible refine (span_Sub.calls a1 a0 t161 _ A38.out).mono ?_); rintro e w' ⟨rfl, ⟨nd, rfl⟩⟩; refine ⟨_, rfl, ?_⟩) | ((with_reducible refine gate_callee (f := 24) rfl ?_); refine goesG_ (some 53) rfl Try.func24 (by kernel_rfl) rfl #[.bool (t161 == 0)] rfl (by first | rfl | (go_simp; done) | (simp [Region.wanted, yielded]; done)) (by (try simp only [List.map_toArray, List.map_cons, List.map_nil]); first | done | rfl | (simp only [List.length_drop, List.length_take]; rfl)) ?_; (with_reducible refine (span_Truth.calls (t161 == 0) t162 _ A39.out).mono ?_); rintro e w' ⟨rfl, ⟨nd, rfl⟩⟩; refine ⟨_, rfl, ?_⟩) | ((with_reducible refine gate_callee (f := 23) rfl ?_); refine goesG_ (some 57) rfl Try.func23 (by kernel_rfl) rfl #[] rfl (by first | rfl | (go_simp; done) | (simp [Region.wanted, yielded]; done)) (by (try simp only [List.map_toArray, List.map_cons, List.map_nil]); first | done | rfl | (simp only [List.length_drop, List.length_take]; rfl)) ?_; (with_reducible refine (handshakerlaw01_awake.calls  t163 _ A41.out).mono ?_); rintro e w' ⟨rfl, ⟨nd, rfl⟩⟩; refine ⟨_, rfl, ?_⟩))
                go_ret
                exact ⟨by first | rfl | (simp; done) | (simp [*]; done), by repeat (first | exact Drawn0.refl _ | apply Drawn0.step)⟩
              · rw [if_neg c40] at H
                have c40b0 : (t160 == t162) = false := beq_eq_false_iff_ne.mpr c40
                have c40b1 : (t160 != t162) = true := bne_iff_ne.mpr c40
                exact absurd (Option.some.inj H) (by rw [HT.out]; decide)
            · rw [if_neg c36] at H
              have c36b0 : (t158 == t159) = false := beq_eq_false_iff_ne.mpr c36
              have c36b1 : (t158 != t159) = true := bne_iff_ne.mpr c36
              exact absurd (Option.some.inj H) (by rw [HT.out]; decide)
          · rw [if_neg c32] at H
            have c32b0 : (t141 == 0) = false := beq_eq_false_iff_ne.mpr c32
            have c32b1 : (t141 != 0) = true := bne_iff_ne.mpr c32
            exact absurd (Option.some.inj H) (by rw [HT.out]; decide)
    · rw [if_neg c9] at H
      have c9b0 : (t139 == t140) = false := beq_eq_false_iff_ne.mpr c9
      have c9b1 : (t139 != t140) = true := bne_iff_ne.mpr c9
      exact absurd (Option.some.inj H) (by rw [HT.out]; decide)
  · rw [if_neg c8] at H
    have c8b0 : (t142 == 0) = false := beq_eq_false_iff_ne.mpr c8
    have c8b1 : (t142 != 0) = true := bne_iff_ne.mpr c8
    by_cases c42 : t139 = t140
    · rw [if_pos c42] at H
      have c42b0 : (t139 == t140) = true := beq_iff_eq.mpr c42
      have c42b1 : (t139 != t140) = false := bne_eq_false_iff_eq.mpr c42
      clear c42
      exact absurd (Option.some.inj H) (by rw [HT.out]; decide)
    · rw [if_neg c42] at H
      have c42b0 : (t139 == t140) = false := beq_eq_false_iff_ne.mpr c42
      have c42b1 : (t139 != t140) = true := bne_iff_ne.mpr c42
      by_cases c43 : t141 = 1
      · rw [if_pos c43] at H
        have c43b0 : (t141 == 1) = true := beq_iff_eq.mpr c43
        have c43b1 : (t141 != 1) = false := bne_eq_false_iff_eq.mpr c43
        clear c43
        by_cases c44 : a2 = true
        · subst c44
          have H1 : (if t141 = 0 then ((span_Sub.f a0 a1).bind fun t164 => ((span_Add.f t164 a1).bind fun t165 => ((span_Wrap.f a0).bind fun t166 => (if t165 = t166 then ((span_Truth.f false).bind fun t167 => ((span_Sub.f a1 a0).bind fun t168 => ((span_Truth.f (t168 == 0)).bind fun t169 => (if t167 = t169 then ((handshakerlaw01_awake.f).bind fun t170 => (some t170)) else (some false))))) else (some false))))) else ((span_Sub.f a0 a1).bind fun t171 => ((span_Add.f t171 a1).bind fun t172 => ((span_Wrap.f a0).bind fun t173 => (if t172 = t173 then ((span_Truth.f false).bind fun t174 => ((span_Sub.f a1 a0).bind fun t175 => ((span_Truth.f (t175 == 0)).bind fun t176 => (if t174 = t176 then ((handshakerlaw01_awake.f).bind fun t177 => (some t177)) else (some false))))) else (some false)))))) = some r := by rw [if_pos rfl] at H; exact H
          clear H
          have H := H1
          clear H1
          by_cases c45 : t141 = 0
          · rw [if_pos c45] at H
            have c45b0 : (t141 == 0) = true := beq_iff_eq.mpr c45
            have c45b1 : (t141 != 0) = false := bne_eq_false_iff_eq.mpr c45
            clear c45
            replace H := Option.bind_eq_some_iff.mp H
            obtain ⟨t164, A460, H⟩ := H
            replace H : ((span_Add.f t164 a1).bind fun t165 => ((span_Wrap.f a0).bind fun t166 => (if t165 = t166 then ((span_Truth.f false).bind fun t167 => ((span_Sub.f a1 a0).bind fun t168 => ((span_Truth.f (t168 == 0)).bind fun t169 => (if t167 = t169 then ((handshakerlaw01_awake.f).bind fun t170 => (some t170)) else (some false))))) else (some false)))) = some r := H
            have A46 := Aside0.mk A460
            clear A460
            replace H := Option.bind_eq_some_iff.mp H
            obtain ⟨t165, A470, H⟩ := H
            replace H : ((span_Wrap.f a0).bind fun t166 => (if t165 = t166 then ((span_Truth.f false).bind fun t167 => ((span_Sub.f a1 a0).bind fun t168 => ((span_Truth.f (t168 == 0)).bind fun t169 => (if t167 = t169 then ((handshakerlaw01_awake.f).bind fun t170 => (some t170)) else (some false))))) else (some false))) = some r := H
            have A47 := Aside0.mk A470
            clear A470
            replace H := Option.bind_eq_some_iff.mp H
            obtain ⟨t166, A480, H⟩ := H
            replace H : (if t165 = t166 then ((span_Truth.f false).bind fun t167 => ((span_Sub.f a1 a0).bind fun t168 => ((span_Truth.f (t168 == 0)).bind fun t169 => (if t167 = t169 then ((handshakerlaw01_awake.f).bind fun t170 => (some t170)) else (some false))))) else (some false)) = some r := H
            have A48 := Aside0.mk A480
            clear A480
            by_cases c49 : t165 = t166
            · rw [if_pos c49] at H
              have c49b0 : (t165 == t166) = true := beq_iff_eq.mpr c49
              have c49b1 : (t165 != t166) = false := bne_eq_false_iff_eq.mpr c49
              clear c49
              replace H := Option.bind_eq_some_iff.mp H
              obtain ⟨t167, A500, H⟩ := H
              replace H : ((span_Sub.f a1 a0).bind fun t168 => ((span_Truth.f (t168 == 0)).bind fun t169 => (if t167 = t169 then ((handshakerlaw01_awake.f).bind fun t170 => (some t170)) else (some false)))) = some r := H
              have A50 := Aside0.mk A500
              clear A500
              replace H := Option.bind_eq_some_iff.mp H
              obtain ⟨t168, A510, H⟩ := H
              replace H : ((span_Truth.f (t168 == 0)).bind fun t169 => (if t167 = t169 then ((handshakerlaw01_awake.f).bind fun t170 => (some t170)) else (some false))) = some r := H
              have A51 := Aside0.mk A510
              clear A510
              replace H := Option.bind_eq_some_iff.mp H
              obtain ⟨t169, A520, H⟩ := H
              replace H : (if t167 = t169 then ((handshakerlaw01_awake.f).bind fun t170 => (some t170)) else (some false)) = some r := H
              have A52 := Aside0.mk A520
              clear A520
              by_cases c53 : t167 = t169
              · rw [if_pos c53] at H
                have c53b0 : (t167 == t169) = true := beq_iff_eq.mpr c53
                have c53b1 : (t167 != t169) = false := bne_eq_false_iff_eq.mpr c53
                clear c53
                replace H := Option.bind_eq_some_iff.mp H
                obtain ⟨t170, A540, H⟩ := H
                replace H : (some t170) = some r := H
                have A54 := Aside0.mk A540
                clear A540
                obtain rfl := Option.some.inj H
                go_enter Try.func7, Try.ntmps7
                go_wp2_with (first | ((with_reducible refine gate_callee (f := 18) rfl ?_); refine goesL_ (some 10) rfl rfl Try.func18 (by kernel_rfl) rfl #[.int .i64 a0] rfl (by (try simp only [List.map_toArray, List.map_cons, List.map_nil]); first | done | rfl | (simp only [List.length_drop, List.length_take]; rfl)) ?_; (with_reducible refine (span_Wrap.calls a0 t139 _ A4.out).mono ?_); rintro e w' ⟨rfl, ⟨nd, rfl⟩⟩; refine ⟨_, rfl, ?_⟩) | ((with_reducible refine gate_callee (f := 18) rfl ?_); refine goesL_ (some 12) rfl rfl Try.func18 (by kernel_rfl) rfl #[.int .i64 a1] rfl (by (try simp only [List.map_toArray, List.map_cons, List.map_nil]); first | done | rfl | (simp only [List.length_drop, List.length_take]; rfl)) ?_; (with_reducible refine (span_Wrap.calls a1 t140 _ A5.out).mono ?_); rintro e w' ⟨rfl, ⟨nd, rfl⟩⟩; refine ⟨_, rfl, ?_⟩) | ((with_reducible refine gate_callee (f := 24) rfl ?_); refine goesL_ (some 15) rfl rfl Try.func24 (by kernel_rfl) rfl #[.bool true] rfl (by (try simp only [List.map_toArray, List.map_cons, List.map_nil]); first | done | rfl | (simp only [List.length_drop, List.length_take]; rfl)) ?_; (with_reducible refine (span_Truth.calls true t141 _ A6.out).mono ?_); rintro e w' ⟨rfl, ⟨nd, rfl⟩⟩; refine ⟨_, rfl, ?_⟩) | ((with_reducible refine gate_callee (f := 20) rfl ?_); refine goesL_ (some 18) rfl rfl Try.func20 (by kernel_rfl) rfl #[.int .i64 a0, .int .i64 a1] rfl (by (try simp only [List.map_toArray, List.map_cons, List.map_nil]); first | done | rfl | (simp only [List.length_drop, List.length_take]; rfl)) ?_; (with_reducible refine (span_Sub.calls a0 a1 t142 _ A7.out).mono ?_); rintro e w' ⟨rfl, ⟨nd, rfl⟩⟩; refine ⟨_, rfl, ?_⟩) | ((with_reducible refine gate_callee (f := 20) rfl ?_); refine goesG_ (some 39) rfl Try.func20 (by kernel_rfl) rfl #[.int .i64 a0, .int .i64 a1] rfl (by first | rfl | (go_simp; done) | (simp [Region.wanted, yielded]; done)) (by (try simp only [List.map_toArray, List.map_cons, List.map_nil]); first | done | rfl | (simp only [List.length_drop, List.length_take]; rfl)) ?_; (with_reducible refine (span_Sub.calls a0 a1 t164 _ A46.out).mono ?_); rintro e w' ⟨rfl, ⟨nd, rfl⟩⟩; refine ⟨_, rfl, ?_⟩) | ((with_reducible refine gate_callee (f := 19) rfl ?_); refine goesG_ (some 41) rfl Try.func19 (by kernel_rfl) rfl #[.int .i64 t164, .int .i64 a1] rfl (by first | rfl | (go_simp; done) | (simp [Region.wanted, yielded]; done)) (by (try simp only [List.map_toArray, List.map_cons, List.map_nil]); first | done | rfl | (simp only [List.length_drop, List.length_take]; rfl)) ?_; (with_reducible refine (span_Add.calls t164 a1 t165 _ A47.out).mono ?_); rintro e w' ⟨rfl, ⟨nd, rfl⟩⟩; refine ⟨_, rfl, ?_⟩) | ((with_reducible refine gate_callee (f := 18) rfl ?_); refine goesG_ (some 43) rfl Try.func18 (by kernel_rfl) rfl #[.int .i64 a0] rfl (by first | rfl | (go_simp; done) | (simp [Region.wanted, yielded]; done)) (by (try simp only [List.map_toArray, List.map_cons, List.map_nil]); first | done | rfl | (simp only [List.length_drop, List.length_take]; rfl)) ?_; (with_reducible refine (span_Wrap.calls a0 t166 _ A48.out).mono ?_); rintro e w' ⟨rfl, ⟨nd, rfl⟩⟩; refine ⟨_, rfl, ?_⟩) | ((with_reducible refine gate_callee (f := 24) rfl ?_); refine goesG_ (some 48) rfl Try.func24 (by kernel_rfl) rfl #[.bool false] rfl (by first | rfl | (go_simp; done) | (simp [Region.wanted, yielded]; done)) (by (try simp only [List.map_toArray, List.map_cons, List.map_nil]); first | done | rfl | (simp only [List.length_drop, List.length_take]; rfl)) ?_; (with_reducible refine (span_Truth.calls false t167 _ A50.out).mono ?_); rintro e w' ⟨rfl, ⟨nd, rfl⟩⟩; refine ⟨_, rfl, ?_⟩) | ((with_reducible refine gate_callee (f := 20) rfl ?_); refine goesG_ (some 51) rfl Try.func20 (by kernel_rfl) rfl #[.int .i64 a1, .int .i64 a0] rfl (by first | rfl | (go_simp; done) | (simp [Region.wanted, yielded]; done)) (by (try simp only [List.map_toArray, List.map_cons, List.map_nil]); first | done | rfl | (simp only [List.length_drop, List.length_take]; rfl)) ?_; (with_reducible refine (span_Sub.calls a1 a0 t168 _ A51.out).mono ?_); rintro e w' ⟨rfl, ⟨nd, rfl⟩⟩; refine ⟨_, rfl, ?_⟩) | ((with_reducible refine gate_callee (f := 24) rfl ?_); refine goesG_ (some 53) rfl Try.func24 (by kernel_rfl) rfl #[.bool (t168 == 0)] rfl (by first | rfl | (go_simp; done) | (simp [Region.wanted, yielded]; done)) (by (try simp only [List.map_toArray, List.map_cons, List.map_nil]); first | done | rfl | (simp only [List.length_drop, List.length_take]; rfl)) ?_; (with_reducible refine (span_Truth.calls (t168 == 0) t169 _ A52.out).mono ?_); rintro e w' ⟨rfl, ⟨nd, rfl⟩⟩; refine ⟨_, rfl, ?_⟩) | ((with_reducible refine gate_callee (f := 23) rfl ?_); refine goesG_ (some 57) rfl Try.func23 (by kernel_rfl) rfl #[] rfl (by first | rfl | (go_simp; done) | (simp [Region.wanted, yielded]; done)) (by (try simp only [List.map_toArray, List.map_cons, List.map_nil]); first | done | rfl | (simp only [List.length_drop, List.length_take]; rfl)) ?_; (with_reducible refine (handshakerlaw01_awake.calls  t170 _ A54.out).mono ?_); rintro e w' ⟨rfl, ⟨nd, rfl⟩⟩; refine ⟨_, rfl, ?_⟩))
                go_ret
                exact ⟨by first | rfl | (simp; done) | (simp [*]; done), by repeat (first | exact Drawn0.refl _ | apply Drawn0.step)⟩
              · rw [if_neg c53] at H
                have c53b0 : (t167 == t169) = false := beq_eq_false_iff_ne.mpr c53
                have c53b1 : (t167 != t169) = true := bne_iff_ne.mpr c53
                exact absurd (Option.some.inj H) (by rw [HT.out]; decide)
            · rw [if_neg c49] at H
              have c49b0 : (t165 == t166) = false := beq_eq_false_iff_ne.mpr c49
              have c49b1 : (t165 != t166) = true := bne_iff_ne.mpr c49
              exact absurd (Option.some.inj H) (by rw [HT.out]; decide)
          · rw [if_neg c45] at H
            have c45b0 : (t141 == 0) = false := beq_eq_false_iff_ne.mpr c45
            have c45b1 : (t141 != 0) = true := bne_iff_ne.mpr c45
            replace H := Option.bind_eq_some_iff.mp H
            obtain ⟨t171, A550, H⟩ := H
            replace H : ((span_Add.f t171 a1).bind fun t172 => ((span_Wrap.f a0).bind fun t173 => (if t172 = t173 then ((span_Truth.f false).bind fun t174 => ((span_Sub.f a1 a0).bind fun t175 => ((span_Truth.f (t175 == 0)).bind fun t176 => (if t174 = t176 then ((handshakerlaw01_awake.f).bind fun t177 => (some t177)) else (some false))))) else (some false)))) = some r := H
            have A55 := Aside0.mk A550
            clear A550
            replace H := Option.bind_eq_some_iff.mp H
            obtain ⟨t172, A560, H⟩ := H
            replace H : ((span_Wrap.f a0).bind fun t173 => (if t172 = t173 then ((span_Truth.f false).bind fun t174 => ((span_Sub.f a1 a0).bind fun t175 => ((span_Truth.f (t175 == 0)).bind fun t176 => (if t174 = t176 then ((handshakerlaw01_awake.f).bind fun t177 => (some t177)) else (some false))))) else (some false))) = some r := H
            have A56 := Aside0.mk A560
            clear A560
            replace H := Option.bind_eq_some_iff.mp H
            obtain ⟨t173, A570, H⟩ := H
            replace H : (if t172 = t173 then ((span_Truth.f false).bind fun t174 => ((span_Sub.f a1 a0).bind fun t175 => ((span_Truth.f (t175 == 0)).bind fun t176 => (if t174 = t176 then ((handshakerlaw01_awake.f).bind fun t177 => (some t177)) else (some false))))) else (some false)) = some r := H
            have A57 := Aside0.mk A570
            clear A570
            by_cases c58 : t172 = t173
            · rw [if_pos c58] at H
              have c58b0 : (t172 == t173) = true := beq_iff_eq.mpr c58
              have c58b1 : (t172 != t173) = false := bne_eq_false_iff_eq.mpr c58
              clear c58
              replace H := Option.bind_eq_some_iff.mp H
              obtain ⟨t174, A590, H⟩ := H
              replace H : ((span_Sub.f a1 a0).bind fun t175 => ((span_Truth.f (t175 == 0)).bind fun t176 => (if t174 = t176 then ((handshakerlaw01_awake.f).bind fun t177 => (some t177)) else (some false)))) = some r := H
              have A59 := Aside0.mk A590
              clear A590
              replace H := Option.bind_eq_some_iff.mp H
              obtain ⟨t175, A600, H⟩ := H
              replace H : ((span_Truth.f (t175 == 0)).bind fun t176 => (if t174 = t176 then ((handshakerlaw01_awake.f).bind fun t177 => (some t177)) else (some false))) = some r := H
              have A60 := Aside0.mk A600
              clear A600
              replace H := Option.bind_eq_some_iff.mp H
              obtain ⟨t176, A610, H⟩ := H
              replace H : (if t174 = t176 then ((handshakerlaw01_awake.f).bind fun t177 => (some t177)) else (some false)) = some r := H
              have A61 := Aside0.mk A610
              clear A610
              by_cases c62 : t174 = t176
              · rw [if_pos c62] at H
                have c62b0 : (t174 == t176) = true := beq_iff_eq.mpr c62
                have c62b1 : (t174 != t176) = false := bne_eq_false_iff_eq.mpr c62
                clear c62
                replace H := Option.bind_eq_some_iff.mp H
                obtain ⟨t177, A630, H⟩ := H
                replace H : (some t177) = some r := H
                have A63 := Aside0.mk A630
                clear A630
                obtain rfl := Option.some.inj H
                go_enter Try.func7, Try.ntmps7
                go_wp2_with (first | ((with_reducible refine gate_callee (f := 18) rfl ?_); refine goesL_ (some 10) rfl rfl Try.func18 (by kernel_rfl) rfl #[.int .i64 a0] rfl (by (try simp only [List.map_toArray, List.map_cons, List.map_nil]); first | done | rfl | (simp only [List.length_drop, List.length_take]; rfl)) ?_; (with_reducible refine (span_Wrap.calls a0 t139 _ A4.out).mono ?_); rintro e w' ⟨rfl, ⟨nd, rfl⟩⟩; refine ⟨_, rfl, ?_⟩) | ((with_reducible refine gate_callee (f := 18) rfl ?_); refine goesL_ (some 12) rfl rfl Try.func18 (by kernel_rfl) rfl #[.int .i64 a1] rfl (by (try simp only [List.map_toArray, List.map_cons, List.map_nil]); first | done | rfl | (simp only [List.length_drop, List.length_take]; rfl)) ?_; (with_reducible refine (span_Wrap.calls a1 t140 _ A5.out).mono ?_); rintro e w' ⟨rfl, ⟨nd, rfl⟩⟩; refine ⟨_, rfl, ?_⟩) | ((with_reducible refine gate_callee (f := 24) rfl ?_); refine goesL_ (some 15) rfl rfl Try.func24 (by kernel_rfl) rfl #[.bool true] rfl (by (try simp only [List.map_toArray, List.map_cons, List.map_nil]); first | done | rfl | (simp only [List.length_drop, List.length_take]; rfl)) ?_; (with_reducible refine (span_Truth.calls true t141 _ A6.out).mono ?_); rintro e w' ⟨rfl, ⟨nd, rfl⟩⟩; refine ⟨_, rfl, ?_⟩) | ((with_reducible refine gate_callee (f := 20) rfl ?_); refine goesL_ (some 18) rfl rfl Try.func20 (by kernel_rfl) rfl #[.int .i64 a0, .int .i64 a1] rfl (by (try simp only [List.map_toArray, List.map_cons, List.map_nil]); first | done | rfl | (simp only [List.length_drop, List.length_take]; rfl)) ?_; (with_reducible refine (span_Sub.calls a0 a1 t142 _ A7.out).mono ?_); rintro e w' ⟨rfl, ⟨nd, rfl⟩⟩; refine ⟨_, rfl, ?_⟩) | ((with_reducible refine gate_callee (f := 20) rfl ?_); refine goesG_ (some 39) rfl Try.func20 (by kernel_rfl) rfl #[.int .i64 a0, .int .i64 a1] rfl (by first | rfl | (go_simp; done) | (simp [Region.wanted, yielded]; done)) (by (try simp only [List.map_toArray, List.map_cons, List.map_nil]); first | done | rfl | (simp only [List.length_drop, List.length_take]; rfl)) ?_; (with_reducible refine (span_Sub.calls a0 a1 t171 _ A55.out).mono ?_); rintro e w' ⟨rfl, ⟨nd, rfl⟩⟩; refine ⟨_, rfl, ?_⟩) | ((with_reducible refine gate_callee (f := 19) rfl ?_); refine goesG_ (some 41) rfl Try.func19 (by kernel_rfl) rfl #[.int .i64 t171, .int .i64 a1] rfl (by first | rfl | (go_simp; done) | (simp [Region.wanted, yielded]; done)) (by (try simp only [List.map_toArray, List.map_cons, List.map_nil]); first | done | rfl | (simp only [List.length_drop, List.length_take]; rfl)) ?_; (with_reducible refine (span_Add.calls t171 a1 t172 _ A56.out).mono ?_); rintro e w' ⟨rfl, ⟨nd, rfl⟩⟩; refine ⟨_, rfl, ?_⟩) | ((with_reducible refine gate_callee (f := 18) rfl ?_); refine goesG_ (some 43) rfl Try.func18 (by kernel_rfl) rfl #[.int .i64 a0] rfl (by first | rfl | (go_simp; done) | (simp [Region.wanted, yielded]; done)) (by (try simp only [List.map_toArray, List.map_cons, List.map_nil]); first | done | rfl | (simp only [List.length_drop, List.length_take]; rfl)) ?_; (with_reducible refine (span_Wrap.calls a0 t173 _ A57.out).mono ?_); rintro e w' ⟨rfl, ⟨nd, rfl⟩⟩; refine ⟨_, rfl, ?_⟩) | ((with_reducible refine gate_callee (f := 24) rfl ?_); refine goesG_ (some 48) rfl Try.func24 (by kernel_rfl) rfl #[.bool false] rfl (by first | rfl | (go_simp; done) | (simp [Region.wanted, yielded]; done)) (by (try simp only [List.map_toArray, List.map_cons, List.map_nil]); first | done | rfl | (simp only [List.length_drop, List.length_take]; rfl)) ?_; (with_reducible refine (span_Truth.calls false t174 _ A59.out).mono ?_); rintro e w' ⟨rfl, ⟨nd, rfl⟩⟩; refine ⟨_, rfl, ?_⟩) | ((with_reducible refine gate_callee (f := 20) rfl ?_); refine goesG_ (some 51) rfl Try.func20 (by kernel_rfl) rfl #[.int .i64 a1, .int .i64 a0] rfl (by first | rfl | (go_simp; done) | (simp [Region.wanted, yielded]; done)) (by (try simp only [List.map_toArray, List.map_cons, List.map_nil]); first | done | rfl | (simp only [List.length_drop, List.length_take]; rfl)) ?_; (with_reducible refine (span_Sub.calls a1 a0 t175 _ A60.out).mono ?_); rintro e w' ⟨rfl, ⟨nd, rfl⟩⟩; refine ⟨_, rfl, ?_⟩) | ((with_reducible refine gate_callee (f := 24) rfl ?_); refine goesG_ (some 53) rfl Try.func24 (by kernel_rfl) rfl #[.bool (t175 == 0)] rfl (by first | rfl | (go_simp; done) | (simp [Region.wanted, yielded]; done)) (by (try simp only [List.map_toArray, List.map_cons, List.map_nil]); first | done | rfl | (simp only [List.length_drop, List.length_take]; rfl)) ?_; (with_reducible refine (span_Truth.calls (t175 == 0) t176 _ A61.out).mono ?_); rintro e w' ⟨rfl, ⟨nd, rfl⟩⟩; refine ⟨_, rfl, ?_⟩) | ((with_reducible refine gate_callee (f := 23) rfl ?_); refine goesG_ (some 57) rfl Try.func23 (by kernel_rfl) rfl #[] rfl (by first | rfl | (go_simp; done) | (simp [Region.wanted, yielded]; done)) (by (try simp only [List.map_toArray, List.map_cons, List.map_nil]); first | done | rfl | (simp only [List.length_drop, List.length_take]; rfl)) ?_; (with_reducible refine (handshakerlaw01_awake.calls  t177 _ A63.out).mono ?_); rintro e w' ⟨rfl, ⟨nd, rfl⟩⟩; refine ⟨_, rfl, ?_⟩))
                go_ret
                exact ⟨by first | rfl | (simp; done) | (simp [*]; done), by repeat (first | exact Drawn0.refl _ | apply Drawn0.step)⟩
              · rw [if_neg c62] at H
                have c62b0 : (t174 == t176) = false := beq_eq_false_iff_ne.mpr c62
                have c62b1 : (t174 != t176) = true := bne_iff_ne.mpr c62
                exact absurd (Option.some.inj H) (by rw [HT.out]; decide)
            · rw [if_neg c58] at H
              have c58b0 : (t172 == t173) = false := beq_eq_false_iff_ne.mpr c58
              have c58b1 : (t172 != t173) = true := bne_iff_ne.mpr c58
              exact absurd (Option.some.inj H) (by rw [HT.out]; decide)
        · replace c44 := Bool.eq_false_iff.mpr c44
          subst c44
          have H1 : (some false) = some r := by rw [if_neg (show ¬ (false = true) by decide)] at H; exact H
          clear H
          have H := H1
          clear H1
          exact absurd (Option.some.inj H) (by rw [HT.out]; decide)
      · rw [if_neg c43] at H
        have c43b0 : (t141 == 1) = false := beq_eq_false_iff_ne.mpr c43
        have c43b1 : (t141 != 1) = true := bne_iff_ne.mpr c43
        by_cases c64 : a2 = true
        · subst c64
          have H1 : (some false) = some r := by rw [if_pos rfl] at H; exact H
          clear H
          have H := H1
          clear H1
          exact absurd (Option.some.inj H) (by rw [HT.out]; decide)
        · replace c64 := Bool.eq_false_iff.mpr c64
          subst c64
          have H1 : (if t141 = 0 then ((span_Sub.f a0 a1).bind fun t178 => ((span_Add.f t178 a1).bind fun t179 => ((span_Wrap.f a0).bind fun t180 => (if t179 = t180 then ((span_Truth.f false).bind fun t181 => ((span_Sub.f a1 a0).bind fun t182 => ((span_Truth.f (t182 == 0)).bind fun t183 => (if t181 = t183 then ((handshakerlaw01_awake.f).bind fun t184 => (some t184)) else (some false))))) else (some false))))) else (some false)) = some r := by rw [if_neg (show ¬ (false = true) by decide)] at H; exact H
          clear H
          have H := H1
          clear H1
          by_cases c65 : t141 = 0
          · rw [if_pos c65] at H
            have c65b0 : (t141 == 0) = true := beq_iff_eq.mpr c65
            have c65b1 : (t141 != 0) = false := bne_eq_false_iff_eq.mpr c65
            clear c65
            replace H := Option.bind_eq_some_iff.mp H
            obtain ⟨t178, A660, H⟩ := H
            replace H : ((span_Add.f t178 a1).bind fun t179 => ((span_Wrap.f a0).bind fun t180 => (if t179 = t180 then ((span_Truth.f false).bind fun t181 => ((span_Sub.f a1 a0).bind fun t182 => ((span_Truth.f (t182 == 0)).bind fun t183 => (if t181 = t183 then ((handshakerlaw01_awake.f).bind fun t184 => (some t184)) else (some false))))) else (some false)))) = some r := H
            have A66 := Aside0.mk A660
            clear A660
            replace H := Option.bind_eq_some_iff.mp H
            obtain ⟨t179, A670, H⟩ := H
            replace H : ((span_Wrap.f a0).bind fun t180 => (if t179 = t180 then ((span_Truth.f false).bind fun t181 => ((span_Sub.f a1 a0).bind fun t182 => ((span_Truth.f (t182 == 0)).bind fun t183 => (if t181 = t183 then ((handshakerlaw01_awake.f).bind fun t184 => (some t184)) else (some false))))) else (some false))) = some r := H
            have A67 := Aside0.mk A670
            clear A670
            replace H := Option.bind_eq_some_iff.mp H
            obtain ⟨t180, A680, H⟩ := H
            replace H : (if t179 = t180 then ((span_Truth.f false).bind fun t181 => ((span_Sub.f a1 a0).bind fun t182 => ((span_Truth.f (t182 == 0)).bind fun t183 => (if t181 = t183 then ((handshakerlaw01_awake.f).bind fun t184 => (some t184)) else (some false))))) else (some false)) = some r := H
            have A68 := Aside0.mk A680
            clear A680
            by_cases c69 : t179 = t180
            · rw [if_pos c69] at H
              have c69b0 : (t179 == t180) = true := beq_iff_eq.mpr c69
              have c69b1 : (t179 != t180) = false := bne_eq_false_iff_eq.mpr c69
              clear c69
              replace H := Option.bind_eq_some_iff.mp H
              obtain ⟨t181, A700, H⟩ := H
              replace H : ((span_Sub.f a1 a0).bind fun t182 => ((span_Truth.f (t182 == 0)).bind fun t183 => (if t181 = t183 then ((handshakerlaw01_awake.f).bind fun t184 => (some t184)) else (some false)))) = some r := H
              have A70 := Aside0.mk A700
              clear A700
              replace H := Option.bind_eq_some_iff.mp H
              obtain ⟨t182, A710, H⟩ := H
              replace H : ((span_Truth.f (t182 == 0)).bind fun t183 => (if t181 = t183 then ((handshakerlaw01_awake.f).bind fun t184 => (some t184)) else (some false))) = some r := H
              have A71 := Aside0.mk A710
              clear A710
              replace H := Option.bind_eq_some_iff.mp H
              obtain ⟨t183, A720, H⟩ := H
              replace H : (if t181 = t183 then ((handshakerlaw01_awake.f).bind fun t184 => (some t184)) else (some false)) = some r := H
              have A72 := Aside0.mk A720
              clear A720
              by_cases c73 : t181 = t183
              · rw [if_pos c73] at H
                have c73b0 : (t181 == t183) = true := beq_iff_eq.mpr c73
                have c73b1 : (t181 != t183) = false := bne_eq_false_iff_eq.mpr c73
                clear c73
                replace H := Option.bind_eq_some_iff.mp H
                obtain ⟨t184, A740, H⟩ := H
                replace H : (some t184) = some r := H
                have A74 := Aside0.mk A740
                clear A740
                obtain rfl := Option.some.inj H
                go_enter Try.func7, Try.ntmps7
                go_wp2_with (first | ((with_reducible refine gate_callee (f := 18) rfl ?_); refine goesL_ (some 10) rfl rfl Try.func18 (by kernel_rfl) rfl #[.int .i64 a0] rfl (by (try simp only [List.map_toArray, List.map_cons, List.map_nil]); first | done | rfl | (simp only [List.length_drop, List.length_take]; rfl)) ?_; (with_reducible refine (span_Wrap.calls a0 t139 _ A4.out).mono ?_); rintro e w' ⟨rfl, ⟨nd, rfl⟩⟩; refine ⟨_, rfl, ?_⟩) | ((with_reducible refine gate_callee (f := 18) rfl ?_); refine goesL_ (some 12) rfl rfl Try.func18 (by kernel_rfl) rfl #[.int .i64 a1] rfl (by (try simp only [List.map_toArray, List.map_cons, List.map_nil]); first | done | rfl | (simp only [List.length_drop, List.length_take]; rfl)) ?_; (with_reducible refine (span_Wrap.calls a1 t140 _ A5.out).mono ?_); rintro e w' ⟨rfl, ⟨nd, rfl⟩⟩; refine ⟨_, rfl, ?_⟩) | ((with_reducible refine gate_callee (f := 24) rfl ?_); refine goesL_ (some 15) rfl rfl Try.func24 (by kernel_rfl) rfl #[.bool false] rfl (by (try simp only [List.map_toArray, List.map_cons, List.map_nil]); first | done | rfl | (simp only [List.length_drop, List.length_take]; rfl)) ?_; (with_reducible refine (span_Truth.calls false t141 _ A6.out).mono ?_); rintro e w' ⟨rfl, ⟨nd, rfl⟩⟩; refine ⟨_, rfl, ?_⟩) | ((with_reducible refine gate_callee (f := 20) rfl ?_); refine goesL_ (some 18) rfl rfl Try.func20 (by kernel_rfl) rfl #[.int .i64 a0, .int .i64 a1] rfl (by (try simp only [List.map_toArray, List.map_cons, List.map_nil]); first | done | rfl | (simp only [List.length_drop, List.length_take]; rfl)) ?_; (with_reducible refine (span_Sub.calls a0 a1 t142 _ A7.out).mono ?_); rintro e w' ⟨rfl, ⟨nd, rfl⟩⟩; refine ⟨_, rfl, ?_⟩) | ((with_reducible refine gate_callee (f := 20) rfl ?_); refine goesG_ (some 39) rfl Try.func20 (by kernel_rfl) rfl #[.int .i64 a0, .int .i64 a1] rfl (by first | rfl | (go_simp; done) | (simp [Region.wanted, yielded]; done)) (by (try simp only [List.map_toArray, List.map_cons, List.map_nil]); first | done | rfl | (simp only [List.length_drop, List.length_take]; rfl)) ?_; (with_reducible refine (span_Sub.calls a0 a1 t178 _ A66.out).mono ?_); rintro e w' ⟨rfl, ⟨nd, rfl⟩⟩; refine ⟨_, rfl, ?_⟩) | ((with_reducible refine gate_callee (f := 19) rfl ?_); refine goesG_ (some 41) rfl Try.func19 (by kernel_rfl) rfl #[.int .i64 t178, .int .i64 a1] rfl (by first | rfl | (go_simp; done) | (simp [Region.wanted, yielded]; done)) (by (try simp only [List.map_toArray, List.map_cons, List.map_nil]); first | done | rfl | (simp only [List.length_drop, List.length_take]; rfl)) ?_; (with_reducible refine (span_Add.calls t178 a1 t179 _ A67.out).mono ?_); rintro e w' ⟨rfl, ⟨nd, rfl⟩⟩; refine ⟨_, rfl, ?_⟩) | ((with_reducible refine gate_callee (f := 18) rfl ?_); refine goesG_ (some 43) rfl Try.func18 (by kernel_rfl) rfl #[.int .i64 a0] rfl (by first | rfl | (go_simp; done) | (simp [Region.wanted, yielded]; done)) (by (try simp only [List.map_toArray, List.map_cons, List.map_nil]); first | done | rfl | (simp only [List.length_drop, List.length_take]; rfl)) ?_; (with_reducible refine (span_Wrap.calls a0 t180 _ A68.out).mono ?_); rintro e w' ⟨rfl, ⟨nd, rfl⟩⟩; refine ⟨_, rfl, ?_⟩) | ((with_reducible refine gate_callee (f := 24) rfl ?_); refine goesG_ (some 48) rfl Try.func24 (by kernel_rfl) rfl #[.bool false] rfl (by first | rfl | (go_simp; done) | (simp [Region.wanted, yielded]; done)) (by (try simp only [List.map_toArray, List.map_cons, List.map_nil]); first | done | rfl | (simp only [List.length_drop, List.length_take]; rfl)) ?_; (with_reducible refine (span_Truth.calls false t181 _ A70.out).mono ?_); rintro e w' ⟨rfl, ⟨nd, rfl⟩⟩; refine ⟨_, rfl, ?_⟩) | ((with_reducible refine gate_callee (f := 20) rfl ?_); refine goesG_ (some 51) rfl Try.func20 (by kernel_rfl) rfl #[.int .i64 a1, .int .i64 a0] rfl (by first | rfl | (go_simp; done) | (simp [Region.wanted, yielded]; done)) (by (try simp only [List.map_toArray, List.map_cons, List.map_nil]); first | done | rfl | (simp only [List.length_drop, List.length_take]; rfl)) ?_; (with_reducible refine (span_Sub.calls a1 a0 t182 _ A71.out).mono ?_); rintro e w' ⟨rfl, ⟨nd, rfl⟩⟩; refine ⟨_, rfl, ?_⟩) | ((with_reducible refine gate_callee (f := 24) rfl ?_); refine goesG_ (some 53) rfl Try.func24 (by kernel_rfl) rfl #[.bool (t182 == 0)] rfl (by first | rfl | (go_simp; done) | (simp [Region.wanted, yielded]; done)) (by (try simp only [List.map_toArray, List.map_cons, List.map_nil]); first | done | rfl | (simp only [List.length_drop, List.length_take]; rfl)) ?_; (with_reducible refine (span_Truth.calls (t182 == 0) t183 _ A72.out).mono ?_); rintro e w' ⟨rfl, ⟨nd, rfl⟩⟩; refine ⟨_, rfl, ?_⟩) | ((with_reducible refine gate_callee (f := 23) rfl ?_); refine goesG_ (some 57) rfl Try.func23 (by kernel_rfl) rfl #[] rfl (by first | rfl | (go_simp; done) | (simp [Region.wanted, yielded]; done)) (by (try simp only [List.map_toArray, List.map_cons, List.map_nil]); first | done | rfl | (simp only [List.length_drop, List.length_take]; rfl)) ?_; (with_reducible refine (handshakerlaw01_awake.calls  t184 _ A74.out).mono ?_); rintro e w' ⟨rfl, ⟨nd, rfl⟩⟩; refine ⟨_, rfl, ?_⟩))
                go_ret
                exact ⟨by first | rfl | (simp; done) | (simp [*]; done), by repeat (first | exact Drawn0.refl _ | apply Drawn0.step)⟩
              · rw [if_neg c73] at H
                have c73b0 : (t181 == t183) = false := beq_eq_false_iff_ne.mpr c73
                have c73b1 : (t181 != t183) = true := bne_iff_ne.mpr c73
                exact absurd (Option.some.inj H) (by rw [HT.out]; decide)
            · rw [if_neg c69] at H
              have c69b0 : (t179 == t180) = false := beq_eq_false_iff_ne.mpr c69
              have c69b1 : (t179 != t180) = true := bne_iff_ne.mpr c69
              exact absurd (Option.some.inj H) (by rw [HT.out]; decide)
          · rw [if_neg c65] at H
            have c65b0 : (t141 == 0) = false := beq_eq_false_iff_ne.mpr c65
            have c65b1 : (t141 != 0) = true := bne_iff_ne.mpr c65
            exact absurd (Option.some.inj H) (by rw [HT.out]; decide)

/-- THE ONE PURE STATEMENT of handshakerlaw01_SpanOrder. -/
def handshakerlaw01_SpanOrder.Pure : Prop := ∀ (a0 : Int) (a1 : Int) (a2 : Bool), (Lit.int .i64 a0).wf = true → (Lit.int .i64 a1).wf = true → handshakerlaw01_SpanOrder.f a0 a1 a2 = some true

end Go.Proofs.Ytlfeohglfjnnhaa.Sp
