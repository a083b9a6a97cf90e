/-
 PROVED: bytes that are codes are written as just these, and are as many as the codes' sizes, and one, for all bytes. Condition: the argument is of its kind; nothing else.
-/
import Derived.Test.YtpeblomhhofhkaaHPar
import Derived.Test.YtpeblomhhofhkaaHx21
namespace Go.Proofs.Ytpeblomhhofhkaa.H
open Go.RowKit Go.Proofs.YtpeblomhhofhkaaW.PrintWords Go.Proofs.YtpeblomhhofhkaaW.PrintLast Go.Proofs.YtpeblomhhofhkaaW.PrintMore Go.Proofs.Ytpeblomhhofhkaa.Ho
set_option linter.unusedVariables false
set_option linter.unusedSimpArgs false
theorem Once_l (b : List Int) (l : List (List Stp)) (h8 : l.length ≤ 8) (hok : ∀ c ∈ l, checkC c = 0) (hb : b = bytesL l) (d : Nat) : ∀ (k i : Nat) (n : Int), i ≤ l.length → l.length - i = d → d + 200 < k → n = 1 + (((l.take i).flatMap codeB).length : Int) →
 handshakerlaw09_ShapeOnce.l0 k b (bytesL l) 0 n l (l.length : Int) (i : Int) = some true := by
 induction d with
 | zero =>
  intro k i n hi hd hk hn
  obtain ⟨k, rfl⟩ : ∃ m, k = m + 1 := ⟨k - 1, by omega⟩
  simp only [handshakerlaw09_ShapeOnce.l0]
  rw [List.take_of_length_le (by omega)] at hn
  rw [if_neg (by omega), hb, if_pos rfl, if_pos trivial, if_pos (by rw [hn]; unfold bytesL; rw [List.length_cons]; omega), awake9 k (by omega)]; rfl
 | succ d ih =>
  intro k i n hi hd hk hn
  obtain ⟨k, rfl⟩ : ∃ m, k = m + 1 := ⟨k - 1, by omega⟩
  have hmem : l.getD i [] ∈ l := by rw [List.getD_eq_getElem?_getD, List.getElem?_eq_getElem (by omega)]; exact List.getElem_mem _
  have hc := hok _ hmem
  have hpre : ((l.take i).flatMap codeB).length ≤ 16000 := by
   have := flat_len codeB 2000 (l.take i) (fun c hc => codeB_len (hok c (List.mem_of_mem_take hc)))
   rw [List.length_take] at this
   have : 2000 * min i l.length ≤ 2000 * 8 := Nat.mul_le_mul_left _ (by omega)
   omega
  have hsn := congrArg List.length (flat_sn l [] codeB i (by omega))
  rw [List.length_append] at hsn
  simp only [handshakerlaw09_ShapeOnce.l0]
  rw [if_pos (by omega), if_pos (by omega), if_pos (by omega), show rd_L5 l (i : Int) = l.getD i [] from rfl, show wrap64 ((i : Int) + 1) = ((i + 1 : Nat) : Int) by unfold wrap64; omega]
  have hlc := codeB_len hc
  have hsz : sizeB (l.getD i []) = ((codeB (l.getD i [])).length : Int) := if_pos hc
  rw [Size_f k _ (by omega), Option.bind_some, CheckC_f k _ (by omega), Option.bind_some, if_pos hc, hsz]
  refine ih k (i + 1) _ (by omega) (by omega) (by omega) ?_
  rw [hn, wr (by omega) (by omega), hsn]
  omega
theorem ShapeOnce : handshakerlaw09_ShapeOnce.Pure := by
 intro b hb1 hb2 hb3
 have hby : byts b := fun x hx => by
  have := hb3 x hx
  simpa [Lit.wf, IntKind.bits, IntKind.signed, IntKind.min, IntKind.max] using this
 refine ⟨3000, ?_⟩
 generalize hK : 3000 = K
 unfold handshakerlaw09_ShapeOnce.f
 obtain ⟨K, rfl⟩ : ∃ m, K = m + 1 := ⟨K - 1, by omega⟩
 have aw : handshakerlaw09_ShapeOnce.j0 (K + 1) b true = some true := by
  simp only [handshakerlaw09_ShapeOnce.j0]
  rw [if_pos trivial, awake9 K (by omega)]; rfl
 have main : handshakerlaw09_ShapeOnce.j0 (K + 1) b false = some true := by
  simp only [handshakerlaw09_ShapeOnce.j0]
  rw [if_neg (by decide), Read_f K b hby (by omega), Option.bind_some]
  by_cases h : (readB b).2 = 0
  · obtain ⟨l, e, hw, eb⟩ := read_ok hby h
    rw [e]
    dsimp only
    rw [if_pos rfl, Write_f K l (by omega), Option.bind_some]
    obtain ⟨h8, hok, ew⟩ := write_ok hw
    rw [ew]
    exact Once_l b l h8 hok eb l.length K 0 1 (by omega) (by omega) (by omega) (by simp)
  · have e := read_no h
    rw [e]
    dsimp only
    rw [if_neg (by decide), if_pos (show ((([] : List (List Stp)).length : Int) = 0) from rfl), if_pos rfl, awake9 K (by omega)]; rfl
 by_cases h1 : (b.length : Int) > 400
 · rw [if_pos h1]; exact aw
 rw [if_neg h1]
 by_cases h2 : (b.length : Int) > 0
 · rw [if_pos h2, if_pos (by omega)]
   cases decide (rd b 0 > 20) with
   | true => exact aw
   | false => exact main
 · rw [if_neg h2]; exact main
end Go.Proofs.Ytpeblomhhofhkaa.H
namespace Go.Proofs.Ytpeblomhhofhkaa.Pure
theorem ShapeOnce : Go.Proofs.Ytpeblomhhofhkaa.H.handshakerlaw09_ShapeOnce.Pure := Go.Proofs.Ytpeblomhhofhkaa.H.ShapeOnce
end Go.Proofs.Ytpeblomhhofhkaa.Pure
