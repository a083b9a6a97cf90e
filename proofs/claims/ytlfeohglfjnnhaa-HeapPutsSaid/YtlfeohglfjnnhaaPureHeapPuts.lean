/-
  PROVED: what is written is got, the last one of a cell, for every list of cells and every list of writes. Condition: each argument is of its kind; nothing else.
-/
import Derived.Test.YtlfeohglfjnnhaaHpLem
import Derived.Test.YtlfeohglfjnnhaaHpRef
import Derived.Test.YtlfeohglfjnnhaaHpx5
import Derived.Test.YtlfeohglfjnnhaaHpx9
namespace Go.Proofs.Ytlfeohglfjnnhaa.Hp
open Go.RowKit Go.Proofs.YtlfeohglfjnnhaaW.PrintWords Go.Proofs.YtlfeohglfjnnhaaW.PrintLast Go.Proofs.YtlfeohglfjnnhaaW.PrintMore Go.Proofs.Ytlfeohglfjnnhaa.Ho
set_option linter.unusedVariables false
set_option linter.unusedSimpArgs false
--! HeapPuts
theorem Puts_l1 (h : List S59) (l : List S62) (p : List S59) (e : Int) (hm : l.length < 4398046511104) (n i : Nat) (d : Nat) : ∀ (k j : Nat) (b : Bool) (v : Int), j ≤ l.length → l.length - j = d → d < k → i < p.length →
    p.getD i z59 = ⟨b, if e = 0 then lastV (l.drop j) i v else v⟩ →
    (∀ k', k ≤ k' + d + 1 → handshakerlaw02_HeapPuts.l0 k' h l p e (n : Int) (wrap64 ((i : Int) + 1)) = some true) →
    handshakerlaw02_HeapPuts.l1 k h l p e (i : Int) (n : Int) (i : Int) l (l.length : Int) (j : Int) b v = some true := by
  induction d with
  | zero =>
    intro k j b v hj hd hk hi hp hr
    obtain ⟨k, rfl⟩ : ∃ m, k = m + 1 := ⟨k - 1, by omega⟩
    simp only [handshakerlaw02_HeapPuts.l1]
    rw [if_neg (by omega), if_pos (by omega), if_pos (by omega)]
    rw [List.drop_of_length_le (by omega)] at hp
    simp only [lastV, ite_self] at hp
    rw [show rd_T59 p (i : Int) = p.getD i z59 from rfl, hp, if_neg (by simp)]
    exact hr k (by omega)
  | succ d ih =>
    intro k j b v hj hd hk hi hp hr
    obtain ⟨k, rfl⟩ : ∃ m, k = m + 1 := ⟨k - 1, by omega⟩
    simp only [handshakerlaw02_HeapPuts.l1]
    rw [if_pos (by omega), if_pos (by omega), if_pos (by omega), wrN (by omega)]
    rw [show rd_T62 l (j : Int) = l.getD j z62 from rfl]
    rw [drop_cons l z62 j (by omega)] at hp
    simp only [lastV] at hp
    by_cases hc : (l.getD j z62).f0 = (i : Int)
    · rw [if_pos hc]; rw [if_pos hc] at hp
      by_cases he : e = 0
      · rw [if_pos he]; rw [if_pos he] at hp
        exact ih k (j + 1) _ _ (by omega) (by omega) (by omega) hi (by rw [hp, if_pos he]) (fun k' hk' => hr k' (by omega))
      · rw [if_neg he]; rw [if_neg he] at hp
        exact ih k (j + 1) _ _ (by omega) (by omega) (by omega) hi (by rw [hp, if_neg he]) (fun k' hk' => hr k' (by omega))
    · rw [if_neg hc]; rw [if_neg hc] at hp
      exact ih k (j + 1) _ _ (by omega) (by omega) (by omega) hi hp (fun k' hk' => hr k' (by omega))
theorem Puts_l0 (h : List S59) (l : List S62) (p : List S59) (e : Int) (hm : l.length < 4398046511104) (hmh : h.length < 4398046511104) (hl : p.length = h.length) (hr : RightB p = true)
    (hp : ∀ i : Nat, i < h.length → p.getD i z59 = ⟨(h.getD i z59).f0, if e = 0 then lastV l i (h.getD i z59).f1 else (h.getD i z59).f1⟩) (d : Nat) :
    ∀ (k i : Nat), i ≤ h.length → h.length - i = d → d * (l.length + 2) + 62 ≤ k →
    handshakerlaw02_HeapPuts.l0 k h l p e (h.length : Int) (i : Int) = some true := by
  induction d with
  | zero =>
    intro k i hi hd hk
    obtain ⟨k, rfl⟩ : ∃ m, k = m + 1 := ⟨k - 1, by omega⟩
    simp only [handshakerlaw02_HeapPuts.l0]
    rw [if_neg (by omega), Right_f, awake_ok k (by omega)]
    simp [hr]
  | succ d ih =>
    intro k i hi hd hk
    have e1 : (d + 1) * (l.length + 2) = d * (l.length + 2) + l.length + 2 := by rw [Nat.succ_mul]; omega
    obtain ⟨k, rfl⟩ : ∃ m, k = m + 1 := ⟨k - 1, by omega⟩
    simp only [handshakerlaw02_HeapPuts.l0]
    rw [if_pos (by omega), if_pos (by omega), if_pos (by omega)]
    refine Puts_l1 h l p e hm h.length i l.length k 0 _ _ (by omega) (by omega) (by omega) (by omega) ?_ (fun k' hk' => ?_)
    · rw [hp i (by omega)]; rfl
    · rw [wrN (by omega)]
      exact ih k' (i + 1) (by omega) (by omega) (by omega)
theorem HeapPuts : handshakerlaw02_HeapPuts.Pure := by
  intro h l _ _ _ _ _ _
  by_cases h1 : (h.length : Int) > 64
  · refine ⟨62, ?_⟩
    unfold handshakerlaw02_HeapPuts.f
    rw [if_pos h1]; simp only [handshakerlaw02_HeapPuts.j0]
    rw [if_pos trivial, awake_ok _ (by omega)]; rfl
  by_cases h2 : (l.length : Int) > 60
  · refine ⟨62, ?_⟩
    unfold handshakerlaw02_HeapPuts.f
    rw [if_neg h1, if_pos h2]; simp only [handshakerlaw02_HeapPuts.j0]
    rw [if_pos trivial, awake_ok _ (by omega)]; rfl
  by_cases hr : RightB h = true
  · obtain ⟨k, hk⟩ : ∃ k, k = h.length * (l.length + 2) + 200 := ⟨_, rfl⟩
    refine ⟨k + 2, ?_⟩
    have hlen := putB_len h l
    have hS := Same_f (k + 1) h (by omega) (by omega)
    have hJ : handshakerlaw02_HeapPuts.j1 (k + 1) h l (putB h l).1 (putB h l).2 (((putB h l).1.length : Int) != (h.length : Int)) = some true := by
      simp only [handshakerlaw02_HeapPuts.j1]
      rw [if_neg (by rw [hlen]; simp)]
      refine Puts_l0 h l _ _ (by omega) (by omega) hlen (putB_right hr) (fun i hi => ?_) h.length k 0 (by omega) (by omega) (by omega)
      by_cases hc : l.all (fun w => inR w.f1) = true
      · have e : putB h l = putL h h l := by unfold putB; rw [if_pos ⟨hr, hc⟩]
        rw [e]
        rcases putL_code (h := h) l h with he | he
        · rw [if_pos he]; exact putL_get l h rfl (fun _ => rfl) he i hi
        · rw [he, if_neg (by simp)]
      · have e : putB h l = (h, 1) := by unfold putB; rw [if_neg (fun e => hc e.2)]
        rw [e, if_neg (by simp)]
    unfold handshakerlaw02_HeapPuts.f
    rw [if_neg h1, if_neg h2, Right_f]
    simp only [Option.bind_some, hr, Bool.not_true, handshakerlaw02_HeapPuts.j0]
    rw [if_neg (by simp), if_pos (by simp; omega), Put_f (k + 1) h l (by omega) (by omega)]
    simp only [Option.bind_some, List.nil_append]
    rw [hS]
    simp only [Option.bind_some, if_true]
    by_cases he : (putB h l).2 = 0
    · rw [if_pos he]; exact hJ
    · rw [if_neg he]
      have e : (putB h l).1 = h := by
        unfold putB at he ⊢
        split at he
        · rename_i hc
          rw [if_pos hc]
          rcases putL_code (h := h) l h with h0 | h0
          · exact absurd h0 he
          · rw [h0]
        · rename_i hc
          rw [if_neg hc]
      rw [show handshakerref02_Same.f (k + 1) (putB h l).1 h = some true by rw [e]; exact hS]
      simp only [Option.bind_some, if_true]
      exact hJ
  · refine ⟨62, ?_⟩
    unfold handshakerlaw02_HeapPuts.f
    rw [if_neg h1, if_neg h2, Right_f]
    have : RightB h = false := by simpa using hr
    simp only [Option.bind_some, this, handshakerlaw02_HeapPuts.j0]
    rw [if_pos (by simp), awake_ok _ (by omega)]; rfl
end Go.Proofs.Ytlfeohglfjnnhaa.Hp
namespace Go.Proofs.Ytlfeohglfjnnhaa.Pure
theorem HeapPuts : Go.Proofs.Ytlfeohglfjnnhaa.Hp.handshakerlaw02_HeapPuts.Pure := Go.Proofs.Ytlfeohglfjnnhaa.Hp.HeapPuts
end Go.Proofs.Ytlfeohglfjnnhaa.Pure
