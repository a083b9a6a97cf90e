/-
  PROVED: The walks of shape's functions, by hand. Condition: what each lemma states.
-/
import Derived.Test.YtpeblomhhofhkaaHShG
import Derived.Laws.Pointers
namespace Go.Proofs.Ytpeblomhhofhkaa.H
open Go.RowKit Go.Proofs.YtpeblomhhofhkaaW.PrintWords Go.Proofs.YtpeblomhhofhkaaW.PrintLast Go.Proofs.YtpeblomhhofhkaaW.PrintMore Go.Proofs.Ytpeblomhhofhkaa.Ho
set_option linter.unusedVariables false
set_option linter.unusedSimpArgs false
theorem assert_short (w : World) : (Instr.typeAssert (.iface 69 (.agg #[])) 20 69 true).run Try.prog w = .ok (.tuple #[.agg #[], .bool true]) w := by
  have h : Try.prog.underlying 69 = some (.struct #[]) := by kernel_rfl
  simp [Instr.typeAssert, run_underlying h]
set_option maxHeartbeats 16000000 in
set_option maxRecDepth 100000 in
theorem catch_short (gl ge : Nat) (vl ve : Value) (w : World) (hl : w.heap[gl]? = some (.cells #[vl] 22 (0, 0))) (he : w.heap[ge]? = some (.cells #[ve] 26 (0, 0))) :
    CallsD Try.prog 29 #[.pointer (some ⟨gl, 0, none⟩), .pointer (some ⟨ge, 0, none⟩)] (.panicking shortE) w fun e u' w' =>
      e = .returned (.tuple #[]) ∧ u' = .panicking [{ v := .iface 69 (.agg #[]), recovered := true }] ∧ w'.heap[gl]? = some (.cells #[.slice none 0 0] 22 (0, 0)) ∧ w'.heap[ge]? = some (.cells #[.int .i64 2] 26 (0, 0)) ∧ ∀ n, n ≤ gl → n ≤ ge → n ≤ w.heap.size → Below n w w' := by
  obtain ⟨hz0, hf0⟩ := bz1_ ⟨hl⟩
  obtain ⟨hy0, hg0⟩ := bz1_ ⟨he⟩
  have hta := assert_short
  refine callsD_of_wpS Try.func29 rfl fun c₀ cs hu => ?_
  apply wpS_seq
  apply wpS_region
  simp [wpOpsS, go_sem, recoverD, hu, Try.ntmps29, Exit.thenS]
  rw [show (#[.pointer (some ⟨gl, 0, none⟩), .pointer (some ⟨ge, 0, none⟩)] ++ ((Array.replicate 14 undef).setIfInBounds 3 (.iface 69 (.agg #[]))).setIfInBounds 0 (.iface 69 (.agg #[])) : Array Value) = #[.pointer (some ⟨gl, 0, none⟩), .pointer (some ⟨ge, 0, none⟩), .iface 69 (.agg #[]), undef, undef, .iface 69 (.agg #[]), undef, undef, undef, undef, undef, undef, undef, undef, undef, undef] from rfl]
  refine wpS_of_wp ?_
  have hne := blk_ne hl he (by decide)
  go_wp2_with ((with_reducible refine gate_dst (N := 3) rfl ?_); refine box_event ?hg (N := 3) ?hd (cs := #[]) (t := 69) ?hr ?_; (case hd => rfl); (case hg => rfl); (case hr => first | (go_simp; done) | (go_simp; rfl)); intro gx hgx w1 hbox hb1; have HL := ak (blk_below hl hb1); have HE := ak (blk_below he hb1); have HB := ak hb1; clear hgx hbox hb1; obtain ⟨hz0, hf0⟩ := bz1_ HL; obtain ⟨hy0, hg0⟩ := bz1_ (ak (blk_far (p := ⟨gl, 0, none⟩) HE.out hne.symm (.slice none 0 0))))
  have h1 : ∃ W, W = (w1.setCell ⟨gl, 0, none⟩ (.slice none 0 0)).setCell ⟨ge, 0, none⟩ (.int .i64 2) := ⟨_, rfl⟩
  obtain ⟨W, hW⟩ := h1
  rw [← hW]
  have f1 : W.heap[gl]? = some (.cells #[.slice none 0 0] 22 (0, 0)) := by rw [hW]; exact blk_far (p := ⟨ge, 0, none⟩) (blk_put HL.out 0 _ rfl) hne _
  have f2 : W.heap[ge]? = some (.cells #[.int .i64 2] 26 (0, 0)) := by rw [hW]; exact blk_put (blk_far (p := ⟨gl, 0, none⟩) HE.out hne.symm _) 0 _ rfl
  have f3 : ∀ n, n ≤ gl → n ≤ ge → n ≤ w.heap.size → Below n w W := fun n h1 h2 h3 => by rw [hW]; exact ((below_less HB.out h3).setCell h1 _).setCell h2 _
  clear hW
  simp [bodyPostS, results, Try.results29]
  exact ⟨f1, f2, f3⟩
set_option maxHeartbeats 16000000 in
set_option maxRecDepth 100000 in
theorem catch_idle (gl ge : Nat) (w : World) :
    CallsD Try.prog 29 #[.pointer (some ⟨gl, 0, none⟩), .pointer (some ⟨ge, 0, none⟩)] .returning w fun e u' w' => e = .returned (.tuple #[]) ∧ u' = .returning ∧ w' = w := by
  refine callsD_of_wpS Try.func29 rfl fun c₀ cs hu => ?_
  apply wpS_seq
  apply wpS_region
  simp [wpOpsS, go_sem, recoverD, hu, Try.ntmps29, Exit.thenS]
  rw [show (#[.pointer (some ⟨gl, 0, none⟩), .pointer (some ⟨ge, 0, none⟩)] ++ ((Array.replicate 14 undef).setIfInBounds 3 (.nilIface)).setIfInBounds 0 (.nilIface) : Array Value) = #[.pointer (some ⟨gl, 0, none⟩), .pointer (some ⟨ge, 0, none⟩), .nilIface, undef, undef, .nilIface, undef, undef, undef, undef, undef, undef, undef, undef, undef, undef] from rfl]
  refine wpS_of_wp ?_
  go_wp2
  cases c₀
  simp_all [bodyPostS, results, Try.results29]
end Go.Proofs.Ytpeblomhhofhkaa.H
