/-
 PROVED: the bytes of codes are how many there are, and those of each, as it is alone, for all codes. Condition: the argument is of its kind; nothing else.
-/
import Derived.Test.YtpeblomhhofhkaaHPar
import Derived.Test.YtpeblomhhofhkaaHx10
import Derived.Test.YtpeblomhhofhkaaHx11
namespace Go.Proofs.Ytpeblomhhofhkaa.H
open Go.RowKit Go.Proofs.YtpeblomhhofhkaaW.PrintWords Go.Proofs.YtpeblomhhofhkaaW.PrintLast Go.Proofs.YtpeblomhhofhkaaW.PrintMore Go.Proofs.Ytpeblomhhofhkaa.Ho
set_option linter.unusedVariables false
set_option linter.unusedSimpArgs false
/-! ### codes together -/
theorem len_sum : ∀ (l : List (List Stp)) (c : List Stp), c ∈ l → c.length < (l.map List.length).sum + 1
 | x :: l, c, h => by
  rw [List.map_cons, List.sum_cons]
  rcases List.mem_cons.1 h with rfl | h
  · omega
  · have := len_sum l c h; omega
theorem small_f (l : List (List Stp)) (k : Nat) (hm : l.length < 9000000000000000000) (hs : ∀ c ∈ l, c.length ≤ 9223372036854775807) (hk : l.length + (l.map List.length).sum + 2 < k) :
 ∃ b, handshakerlaw09_small.f k l = some b ∧ (b = true → l.length ≤ 12 ∧ ∀ c ∈ l, c.length ≤ 40 ∧ ∀ s ∈ c, s.f3.length ≤ 20) := by
 unfold handshakerlaw09_small.f
 exact small_l l hm hs ((l.map List.length).sum + 1) (len_sum l) l.length k 0 (by omega) (by omega) (by omega) (by simp)
theorem flat_snG (l : List (List Stp)) (i : Nat) (hi : i < l.length) : (l.take (i + 1)).flatMap codeB = (l.take i).flatMap codeB ++ codeB (l.getD i []) := flat_sn l [] codeB i hi
theorem Joins_l (l : List (List Stp)) (h8 : l.length ≤ 8) (hok : ∀ c ∈ l, checkC c = 0) (d : Nat) : ∀ (k i : Nat), i ≤ l.length → l.length - i = d → d + 200 < k →
 handshakerlaw09_ShapeJoins.l0 k (bytesL l) (strOfNums (((l.length : Int) % 256) :: (l.take i).flatMap codeB)) l (l.length : Int) (i : Int) = some true := by
 induction d with
 | zero =>
  intro k i hi hd hk
  obtain ⟨k, rfl⟩ : ∃ m, k = m + 1 := ⟨k - 1, by omega⟩
  simp only [handshakerlaw09_ShapeJoins.l0]
  rw [if_neg (by omega), List.take_of_length_le (by omega), if_pos (show (strOfNums (bytesL l)).toList = (strOfNums (((l.length : Int) % 256) :: l.flatMap codeB)).toList from rfl), awake9 k (by omega)]; rfl
 | succ d ih =>
  intro k i hi hd hk
  obtain ⟨k, rfl⟩ : ∃ m, k = m + 1 := ⟨k - 1, by omega⟩
  have next := ih k (i + 1) (by omega) (by omega) (by omega)
  have hmem : l.getD i [] ∈ l := by rw [List.getD_eq_getElem?_getD, List.getElem?_eq_getElem (by omega)]; exact List.getElem_mem _
  have hc := hok _ hmem
  rw [flat_snG l i (by omega)] at next
  have hpre : (((l.length : Int) % 256) :: (l.take i).flatMap codeB).length ≤ 100000 := by
   have := flat_len codeB 2000 (l.take i) (fun c hc => codeB_len (hok c (List.mem_of_mem_take hc)))
   rw [List.length_take] at this
   rw [List.length_cons]
   have : 2000 * min i l.length ≤ 2000 * 8 := Nat.mul_le_mul_left _ (by omega)
   omega
  simp only [handshakerlaw09_ShapeJoins.l0]
  rw [if_pos (by omega), if_pos (by omega), if_pos (by omega), show rd_L5 l (i : Int) = l.getD i [] from rfl, show wrap64 ((i : Int) + 1) = ((i + 1 : Nat) : Int) by unfold wrap64; omega]
  generalize l.getD i [] = c at *
  have hlc := codeB_len hc
  have hw : writeB [c] = (1 :: codeB c, 0) := by
   unfold writeB
   rw [if_pos ⟨by simp, (okL_iff _).2 fun x hx => by rw [List.mem_singleton.1 hx]; exact hc⟩]
   unfold bytesL
   rw [List.flatMap_cons, List.flatMap_nil, List.append_nil]; rfl
  have hsz : sizeB c = ((codeB c).length : Int) := if_pos hc
  rw [Write_f k [c] (by omega), Option.bind_some, hw]
  dsimp only
  rw [if_pos rfl, Size_f k c (by omega), Option.bind_some, hsz, if_pos (by rw [List.length_cons]; unfold wrap64; omega), if_pos (by rw [List.length_cons]; omega), Option.bind_some]
  rw [show (1 :: codeB c).drop 1 = codeB c from rfl, if_pos (by rw [strOfNums_size, strOfNums_size]; omega), str_app]
  exact next
theorem ShapeJoins : handshakerlaw09_ShapeJoins.Pure := by
 intro l hl1 hl2 hl3
 refine ⟨l.length + (l.map List.length).sum + 3000, ?_⟩
 generalize hK : l.length + (l.map List.length).sum + 3000 = K
 unfold handshakerlaw09_ShapeJoins.f
 obtain ⟨b, hb, hb'⟩ := small_f l K (by omega) (fun c hc => (hl3 c hc).1) (by omega)
 rw [hb, Option.bind_some]
 cases b with
 | false => rw [if_neg (by decide), awake9 K (by omega)]; rfl
 | true =>
  rw [if_pos rfl, Write_f K l (by omega), Option.bind_some]
  by_cases hw : (writeB l).2 = 0
  · obtain ⟨h8, hok, e⟩ := write_ok hw
    rw [if_pos hw, e]
    exact Joins_l l h8 hok l.length K 0 (by omega) (by omega) (by omega)
  · have e : writeB l = ([], 1) := by
     unfold writeB at hw ⊢
     split at hw
     · exact absurd rfl hw
     · rename_i g; rw [if_neg g]
    rw [if_neg hw, e, if_pos (show ((([] : List Int).length : Int) = 0) from rfl), awake9 K (by omega)]; rfl
end Go.Proofs.Ytpeblomhhofhkaa.H
namespace Go.Proofs.Ytpeblomhhofhkaa.Pure
theorem ShapeJoins : Go.Proofs.Ytpeblomhhofhkaa.H.handshakerlaw09_ShapeJoins.Pure := Go.Proofs.Ytpeblomhhofhkaa.H.ShapeJoins
end Go.Proofs.Ytpeblomhhofhkaa.Pure
