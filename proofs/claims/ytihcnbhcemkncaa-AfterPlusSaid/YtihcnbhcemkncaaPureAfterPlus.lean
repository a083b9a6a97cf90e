/-
  PROVED: jobs that only add leave a cell with all that they add, and it, for every value, numbers and number of a Who. Condition: each argument is of its kind; nothing else.
-/
import Derived.Test.YtihcnbhcemkncaaALem2
import Derived.Test.YtihcnbhcemkncaaAx20
namespace Go.Proofs.Ytihcnbhcemkncaa.A
open Go.RowKit Go.Proofs.YtihcnbhcemkncaaW.PrintWords Go.Proofs.YtihcnbhcemkncaaW.PrintLast Go.Proofs.YtihcnbhcemkncaaW.PrintMore Go.Proofs.Ytihcnbhcemkncaa.Ho
set_option linter.unusedVariables false
set_option linter.unusedSimpArgs false
/-! ### jobs that only add -/
def job1 (w n : Int) : Jb := ⟨w, [⟨0, 2, n⟩]⟩
def jobs1 (w : Int) (ns : List Int) : List Jb := ns.map (job1 w)
theorem may1 {w n : Int} (hw : 1 ≤ w ∧ w ≤ 8) (hn : inR n = true) : mayB (job1 w n) = true := by
  rw [mayB_iff]
  refine ⟨hw, ⟨Nat.le_refl _, by show 1 ≤ 8; omega⟩, fun a ha => ?_⟩
  rw [show (job1 w n).f1 = [⟨0, 2, n⟩] from rfl] at ha
  rw [List.mem_singleton.1 ha, okA_iff]
  exact ⟨⟨Int.le_refl _, by show (0 : Int) < 64; omega⟩, .inr rfl, hn⟩
theorem jobs1_right {w : Int} {ns : List Int} (hw : 1 ≤ w ∧ w ≤ 8) (hn : ∀ n ∈ ns, inR n = true) (hl : ns.length ≤ 16) : RJ (jobs1 w ns) := by
  refine ⟨by unfold jobs1; rw [List.length_map]; exact hl, fun x hx => ?_, ?_⟩
  · obtain ⟨n, hn', rfl⟩ := List.mem_map.1 hx
    exact may1 hw (hn n hn')
  · unfold jobs1
    rw [List.pairwise_map]
    exact List.pairwise_of_forall (fun _ _ => .inl rfl)
theorem defer1 {w n : Int} {ms : List Int} (hw : 1 ≤ w ∧ w ≤ 8) (hn : inR n = true) (hm : ∀ m ∈ ms, inR m = true) (hl : ms.length < 16) : deferB (jobs1 w ms) (job1 w n) = (jobs1 w (ms ++ [n]), 0) := by
  unfold deferB
  rw [if_pos ⟨(rightJ_iff _).2 (jobs1_right hw hm (by omega)), may1 hw hn⟩, if_neg, if_neg]
  · unfold jobs1; rw [List.map_append]; rfl
  · unfold jobs1; rw [List.length_map]; omega
  · rw [anyAgainst_no.2]
    · decide
    · intro x hx
      obtain ⟨m, _, rfl⟩ := List.mem_map.1 hx
      exact .inl rfl
def sum1 (v : Int) (ns : List Int) : Int := ns.foldl (fun s n => wrap32 (s + n)) v
theorem right1 {s : Int} (hs : inR s = true) : RightB [(⟨true, s⟩ : Cl)] = true := by
  refine right_of (Nat.le_refl _) (by show 1 ≤ 64; omega) fun j hj => ?_
  obtain rfl : j = 0 := by have : j < 1 := hj; omega
  rw [okC_iff]
  exact ⟨hs, .inl rfl⟩
theorem all1 (l0 : List Jb) (h0 : List Cl) {w : Int} (hw : 1 ≤ w ∧ w ≤ 8) : ∀ (ns : List Int) (s : Int), inR s = true → (∀ n ∈ ns, inR n = true) → ns.length ≤ 16 →
    allL l0 h0 (List.replicate ns.length w) (jobs1 w ns) [⟨true, s⟩] = ([], [⟨true, sum1 s ns⟩], 0)
  | [], s, _, _, _ => rfl
  | n :: ns, s, hs, hn, hl => by
    have hd : doB (jobs1 w (n :: ns)) w [⟨true, s⟩] = (jobs1 w ns, [⟨true, wrap32 (s + n)⟩], 0) := by
      unfold doB
      rw [if_pos ⟨(rightJ_iff _).2 (jobs1_right hw hn hl), right1 hs⟩]
      have hc : cutJ (jobs1 w (n :: ns)) w = some (job1 w n, jobs1 w ns) := by
        unfold jobs1
        rw [List.map_cons]
        simp only [cutJ]
        rw [if_pos (show (job1 w n).f0 = w from rfl)]
      rw [hc]
      dsimp only
      rw [if_pos (by rfl)]
      rfl
    rw [List.length_cons, List.replicate_succ]
    simp only [allL]
    rw [hd, if_pos rfl]
    have := all1 l0 h0 hw ns (wrap32 (s + n)) (by rw [inR_iff]; exact ⟨w32_lo _, w32_hi _⟩) (fun m hm => hn m (by simp [hm])) (by simp at hl; omega)
    exact this
theorem Plus_l (v a2 w : Int) (hw : 1 ≤ w ∧ w ≤ 8) (hv : inR v = true) (l : List Int) (hl : l.length ≤ 16) (hn : ∀ n ∈ l, inR n = true) (ew : wrap64 (1 + wrap64 (Int.tmod a2 8)) = w) (d : Nat) : ∀ (k i : Nat), i ≤ l.length → l.length - i = d → d + 200 < k →
    handshakerlaw22_AfterPlus.l0 k a2 [⟨true, v⟩] (jobs1 w (l.take i)) (List.replicate i w) (sum1 v (l.take i)) l (l.length : Int) (i : Int) = some true := by
  induction d with
  | zero =>
    intro k i hi hd hk
    obtain ⟨k, rfl⟩ : ∃ m, k = m + 1 := ⟨k - 1, by omega⟩
    rw [List.take_of_length_le (by omega)]
    obtain rfl : i = l.length := by omega
    simp only [handshakerlaw22_AfterPlus.l0]
    rw [if_neg (by omega), All_f k _ _ _ (by rw [List.length_replicate]; omega) (by unfold jobs1; rw [List.length_map]; omega) (by unfold jobs1; rw [List.length_map, List.length_replicate]; omega)]
    unfold allB
    rw [if_pos ⟨(rightJ_iff _).2 (jobs1_right hw hn hl), right1 hv⟩, all1 _ _ hw l v hv hn hl]
    simp only [Option.bind_some]
    rw [if_pos trivial, if_pos (by rfl), if_pos (by rfl), if_pos (by show (0 : Int) < 1; omega), if_pos (by rfl), awake22 k (by omega)]
    rfl
  | succ d ih =>
    intro k i hi hd hk
    obtain ⟨k, rfl⟩ : ∃ m, k = m + 1 := ⟨k - 1, by omega⟩
    have hmem := getD_in l 0 i (by omega)
    have hr := (inR_iff _).1 (hn _ hmem)
    have next := ih k (i + 1) (by omega) (by omega) (by omega)
    have ts := take_snG l 0 i (by omega)
    have hd := Defer_f k (jobs1 w (l.take i)) (job1 w (l.getD i 0)) (by unfold jobs1; rw [List.length_map, List.length_take]; omega) (by unfold jobs1; rw [List.length_map, List.length_take]; omega)
    rw [defer1 hw (hn _ hmem) (fun m hm => hn m (List.mem_of_mem_take hm)) (by rw [List.length_take]; omega)] at hd
    simp only [handshakerlaw22_AfterPlus.l0]
    rw [if_pos (by omega), if_pos (by omega), if_pos (by omega), show rd l (i : Int) = l.getD i 0 from rfl, ew, wrN (by omega), wr (by omega) (by omega)]
    rw [show (job1 w (l.getD i 0)).f0 = w from rfl, show (job1 w (l.getD i 0)).f1 = [⟨0, 2, l.getD i 0⟩] from rfl] at hd
    rw [hd, add_f]
    simp only [Option.bind_some]
    rw [if_pos trivial, if_pos (by rw [List.length_replicate]; omega)]
    rw [ts, List.replicate_succ'] at next
    unfold sum1 at next ⊢
    rw [List.foldl_append] at next
    exact next
theorem AfterPlus : handshakerlaw22_AfterPlus.Pure := by
  intro a0 l1 a2 w0 _ _ w1 w2
  have h0 : -2147483648 ≤ a0 ∧ a0 ≤ 2147483647 := by simpa [Lit.wf, IntKind.bits, IntKind.signed, IntKind.min, IntKind.max] using w0
  have h2 : 0 ≤ a2 ∧ a2 ≤ 255 := by simpa [Lit.wf, IntKind.bits, IntKind.signed, IntKind.min, IntKind.max] using w2
  have h1 : ∀ n ∈ l1, inR n = true := fun n hn => by
    have : -2147483648 ≤ n ∧ n ≤ 2147483647 := by simpa [Lit.wf, IntKind.bits, IntKind.signed, IntKind.min, IntKind.max] using w1 n hn
    exact (inR_iff n).2 this
  refine ⟨302, ?_⟩
  generalize hK : (302 : Nat) = K
  unfold handshakerlaw22_AfterPlus.f
  by_cases hl : (l1.length : Int) > 16
  · rw [if_pos hl, awake22 K (by omega)]; rfl
  · rw [if_neg hl, wr (by omega) (by omega)]
    have ew : Int.tmod a2 8 = a2 % 8 := Int.tmod_eq_emod_of_nonneg h2.1
    refine Plus_l a0 a2 (1 + a2 % 8) (by omega) ((inR_iff a0).2 h0) l1 (by omega) h1 ?_ l1.length K 0 (by omega) (by omega) (by omega)
    rw [ew, wr (i := a2 % 8) (by omega) (by omega), wr (by omega) (by omega)]
end Go.Proofs.Ytihcnbhcemkncaa.A
namespace Go.Proofs.Ytihcnbhcemkncaa.Pure
theorem AfterPlus : Go.Proofs.Ytihcnbhcemkncaa.A.handshakerlaw22_AfterPlus.Pure := Go.Proofs.Ytihcnbhcemkncaa.A.AfterPlus
end Go.Proofs.Ytihcnbhcemkncaa.Pure
