/-
  PROVED: two codes as the parts of an Either are a code, one deeper than the deeper one, as long as that is not too many, or too deep, for every two lists of steps. Condition: each argument is of its kind; nothing else.
-/
import Derived.Test.YtbcpnbmegaodbaaCbLem
import Derived.Test.YtbcpnbmegaodbaaCbCode
import Derived.Test.YtbcpnbmegaodbaaCbx4
import Derived.Test.YtbcpnbmegaodbaaCbx5
namespace Go.Proofs.Ytbcpnbmegaodbaa.Cb
open Go.RowKit Go.Proofs.YtbcpnbmegaodbaaW.PrintWords Go.Proofs.YtbcpnbmegaodbaaW.PrintLast Go.Proofs.YtbcpnbmegaodbaaW.PrintMore Go.Proofs.Ytbcpnbmegaodbaa.Ho
set_option linter.unusedVariables false
set_option linter.unusedSimpArgs false
theorem either_deep (a b : List S37) (x y : Nat) (ha : deepT a = some x) (hb : deepT b = some y) : deepT ((⟨7, (a.length : Int), (b.length : Int), []⟩ : S37) :: (a ++ b)) = some (1 + max x y) := by
  rw [deepT, if_pos rfl]
  simp only [Int.toNat_natCast]
  rw [if_neg (by rw [List.length_append]; omega), List.take_left' rfl, ← List.length_append, List.take_length, List.drop_left' rfl, List.drop_of_length_le (by omega), deepT_nil, ha, hb]
  simp only
  congr 1
theorem CodeEither : handshakerlaw08_CodeEither.Pure := by
  intro a b hml hb _ hml2 hb2 _
  refine ⟨a.length + b.length + 3000, ?_⟩
  generalize hK : a.length + b.length + 2999 = K
  rw [show a.length + b.length + 3000 = K + 1 from by omega]
  have aw0 : (handshakerlaw08_awake.f K).bind (fun t => some t) = some true := by rw [awake8 K (by omega)]; rfl
  have j0t : handshakerlaw08_CodeEither.j0 (K + 1) a b true = some true := by
    simp only [handshakerlaw08_CodeEither.j0, if_true]
    exact aw0
  unfold handshakerlaw08_CodeEither.f
  rcases Small_f (K + 1) a (by omega) (by omega) with h | ⟨h1, h2, h⟩
  · rw [h]
    simp only [Option.bind_some]
    rw [if_pos (by omega)]
    exact j0t
  rw [h]
  simp only [Option.bind_some]
  rw [if_neg (by omega)]
  rcases Small_f (K + 1) b (by omega) (by omega) with h' | ⟨h1', h2', h'⟩
  · rw [h']
    simp only [Option.bind_some]
    rw [if_pos (by omega)]
    exact j0t
  rw [h']
  simp only [Option.bind_some]
  rw [if_neg (by omega)]
  by_cases ea : a.length = 0
  · rw [if_pos (by omega)]; exact j0t
  rw [if_neg (by omega)]
  by_cases eb : b.length = 0
  · rw [if_pos (by omega)]; exact j0t
  rw [if_neg (by omega), CheckC_f (K + 1) a (by omega), CheckC_f (K + 1) b (by omega)]
  simp only [Option.bind_some]
  by_cases ca : ¬ checkC a = 0
  · rw [if_neg (by simpa using ca)]; exact j0t
  replace ca := Decidable.not_not.mp ca
  rw [if_pos (by simpa using ca)]
  by_cases cb : ¬ checkC b = 0
  · rw [show (checkC b != 0) = true from by simpa using cb]; exact j0t
  replace cb := Decidable.not_not.mp cb
  rw [show (checkC b != 0) = false from by simpa using cb]
  simp only [handshakerlaw08_CodeEither.j0]
  rw [if_neg (by decide)]
  obtain ⟨a1, a2, _⟩ := checkC_ok ca
  obtain ⟨b1, b2, _⟩ := checkC_ok cb
  obtain ⟨x, dx, x6, ex⟩ := checkC_deep ca
  obtain ⟨y, dy, y6, ey⟩ := checkC_deep cb
  simp only [Option.bind_some]
  rw [if_pos (by simp; omega), if_pos (by simp; omega)]
  simp only [List.singleton_append, List.cons_append, List.nil_append]
  have dc := either_deep a b x y dx dy
  have hmc : ∀ s ∈ ((⟨7, (a.length : Int), (b.length : Int), []⟩ : S37) :: (a ++ b)), mayC s = true := by
    intro s hs
    rcases List.mem_cons.1 hs with rfl | hs
    · unfold mayC btw
      simp
      omega
    · rcases List.mem_append.1 hs with hs | hs
      · exact a2 s hs
      · exact b2 s hs
  have hcl : ((⟨7, (a.length : Int), (b.length : Int), []⟩ : S37) :: (a ++ b)).length = a.length + b.length + 1 := by simp
  generalize ((⟨7, (a.length : Int), (b.length : Int), []⟩ : S37) :: (a ++ b)) = c at *
  rw [CheckC_f K c (by omega), DeepC_f K a (by omega), DeepC_f K b (by omega), DeepC_f K c (by omega), ex, ey]
  simp only [Option.bind_some, mx_nat]
  rw [wr (i := 1 + ((max x y : Nat) : Int)) (by omega) (by omega)]
  by_cases hl : c.length > 24
  · rw [if_pos (by omega), checkC_long hl, if_pos rfl, deepC_no (by rw [checkC_long hl]; decide), if_pos rfl]; exact aw0
  · rw [if_neg (by omega)]
    have ck := checkC_of (by omega) hmc dc
    by_cases h6 : 1 + max x y > 6
    · rw [if_pos h6] at ck
      rw [if_pos (by omega), ck, if_pos rfl, deepC_no (by rw [ck]; decide), if_pos rfl]; exact aw0
    · rw [if_neg h6] at ck
      rw [if_neg (by omega), ck, if_pos rfl, deepC_yes ck dc, if_pos (by omega)]; exact aw0
end Go.Proofs.Ytbcpnbmegaodbaa.Cb
namespace Go.Proofs.Ytbcpnbmegaodbaa.Pure
theorem CodeEither : Go.Proofs.Ytbcpnbmegaodbaa.Cb.handshakerlaw08_CodeEither.Pure := Go.Proofs.Ytbcpnbmegaodbaa.Cb.CodeEither
end Go.Proofs.Ytbcpnbmegaodbaa.Pure
