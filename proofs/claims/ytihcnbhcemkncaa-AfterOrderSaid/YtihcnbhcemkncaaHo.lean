/- Plain functions for slices.IndexFunc and slices.ContainsFunc at a predicate that may fail, and that more rounds tell the same. -/
import Derived.Test.YtihcnbhcemkncaaWWords
import Derived.Test.YtihcnbhcemkncaaWLast
import Derived.Test.YtihcnbhcemkncaaWMore
namespace Go.Proofs.Ytihcnbhcemkncaa.Ho
open Go.RowKit Go.Proofs.YtihcnbhcemkncaaW.PrintWords Go.Proofs.YtihcnbhcemkncaaW.PrintLast
set_option linter.unusedVariables false
/-- The first place at which p holds, or -1. -/
def idxF {α : Type} (p : α → Option Bool) : List α → Int → Option Int
  | [], _ => some (-1)
  | x :: xs, i => (p x).bind fun b => if b = true then some i else idxF p xs (i + 1)
/-- Does p hold anywhere? -/
def anyF {α : Type} (p : α → Option Bool) : List α → Option Bool
  | [] => some false
  | x :: xs => (p x).bind fun b => if b = true then some true else anyF p xs
theorem idxF_mono {α : Type} {p q : α → Option Bool} (h : ∀ x, LeO (p x) (q x)) : ∀ (l : List α) (i : Int), LeO (idxF p l i) (idxF q l i)
  | [], _ => LeO.refl _
  | x :: xs, i => LeO.bind (h x) fun b => LeO.ite (LeO.refl _) (idxF_mono h xs (i + 1))
theorem anyF_mono {α : Type} {p q : α → Option Bool} (h : ∀ x, LeO (p x) (q x)) : ∀ (l : List α), LeO (anyF p l) (anyF q l)
  | [] => LeO.refl _
  | x :: xs => LeO.bind (h x) fun b => LeO.ite (LeO.refl _) (anyF_mono h xs)
theorem idxF_range {α : Type} {p : α → Option Bool} : ∀ (l : List α) (i r : Int), idxF p l i = some r → r = -1 ∨ i ≤ r ∧ r < i + l.length
  | [], _, _, h => .inl (by simpa [idxF] using h.symm)
  | x :: xs, i, r, h => by
    obtain ⟨b, hb, h⟩ := Option.bind_eq_some_iff.mp h
    cases b with
    | true => exact .inr (by simp at h; subst h; simp; omega)
    | false =>
      rcases idxF_range xs (i + 1) r (by simpa using h) with e | e
      · exact .inl e
      · exact .inr (by simp; omega)
/-- What ContainsFunc makes of IndexFunc. -/
theorem any_idx {α : Type} {p : α → Option Bool} : ∀ (l : List α) (i : Int) (b : Bool), 0 ≤ i → anyF p l = some b → ∃ r, idxF p l i = some r ∧ decide (0 ≤ r) = b
  | [], i, b, _, h => ⟨-1, rfl, by simp [anyF] at h; subst h; decide⟩
  | x :: xs, i, b, hi, h => by
    obtain ⟨c, hc, h⟩ := Option.bind_eq_some_iff.mp h
    cases c with
    | true => exact ⟨i, by simp [idxF, hc], by simp at h; subst h; simpa using hi⟩
    | false =>
      obtain ⟨r, hr, hd⟩ := any_idx xs (i + 1) b (by omega) (by simpa using h)
      exact ⟨r, by simp [idxF, hc, hr], hd⟩
theorem idxF_drop {α : Type} (p : α → Option Bool) (l : List α) (z : α) (k : Nat) (hk : k < l.length) (i : Int) : idxF p (l.drop k) i = (p (l.getD k z)).bind fun b => if b = true then some i else idxF p (l.drop (k + 1)) (i + 1) := by
  rw [List.drop_eq_getElem_cons hk]
  simp [idxF, List.getElem?_eq_getElem hk]
theorem ho_load (P : Program) (W : World) (a : Addr) (cs : List Value) (k : Nat) (hk : cs.length = k) (h : ∀ j v, cs[j]? = some v → W.cell? (a.add j) = some v) :
    Sem.run P (loadCellsFrom a 0 k #[]) W = .ok cs.toArray W := by
  have := run_loadCells_list (P := P) (w := W) a cs h
  rw [hk] at this
  simpa [loadCells] using this
/-- A call in a plain region under a guard that says yes, as an arm of go_wp2_with: known by its slot. -/
theorem goesG_ {P : Program} {ops : Array Oper} {Q : Exit → Act → World → Prop} {rest : List Oper} {oi : Oper} {a : Act} {w : World} (N : Option Tmp) (hd : oi.dst = N) {f : FuncId} {fn : Func} {as : Array Operand} {ts : Array TypeId} (hf : P.funcs[f]? = some fn) (hname : (fn.name == "runtime.NumGoroutine") = false) (hb : fn.body.isSome = true) (args : Array Value)
    (hop : oi.op = .call { callee := .value (.func f), args := as, argTypes := ts }) (hw : Region.wanted oi (yielded ops a.tmps) = true) (hargs : as.map a.eval = args)
    (h : Calls P f args w fun e w' => ∃ v, e = .returned v ∧ wpList P ops Q rest (a.put N v) w') : wpList P ops Q (oi :: rest) a w := by
  refine BigFrame.wpList_want hw fun K hK => ?_
  have he := enters_ hf hname hb args w
  have hrun : (execOp a.eval oi).run P w = .ok (.enter f args) w := by
    unfold execOp
    simp [hop, resolve, Deferred.ofValue, invoke, Act.eval, hargs, he]
  unfold Oper.wp
  rw [hrun, Oper.upon_enter]
  refine h.mono fun e w'' hh => ?_
  obtain ⟨v, rfl, hk⟩ := hh
  subst hd
  exact hK _ _ hk
/-- What lies in a cell of the world lies in a block below: not in a later one. -/
theorem fl0_ {W : World} {a : Addr} {v : Value} {b : Nat} (h : W.cell? a = some v) (g : Aside0 (W.heap.size ≤ b)) : a.block ≠ b := Nat.ne_of_lt (Nat.lt_of_lt_of_le (World.block_lt_of_cell? W a h) g.out)
theorem fl1_ {W : World} {a : Addr} {i : Nat} {v : Value} {b : Nat} (h : W.cell? (a.add i) = some v) (g : Aside0 (W.heap.size ≤ b)) : a.block ≠ b := by have := fl0_ h g; rwa [add_block] at this
theorem fl2_ {W : World} {a : Addr} {i : Nat} {v : Value} {b : Nat} (h : W.cell? a = some v) (g : Aside0 (W.heap.size ≤ b)) : (a.add i).block ≠ b := by rw [add_block]; exact fl0_ h g
theorem fl3_ {W : World} {a : Addr} {i j : Nat} {v : Value} {b : Nat} (h : W.cell? (a.add i) = some v) (g : Aside0 (W.heap.size ≤ b)) : (a.add j).block ≠ b := by rw [add_block]; exact fl1_ h g
theorem fl_ {W : World} {a p : Addr} {v : Value} {b : Nat} (h : W.cell? a = some v) (g : Aside0 (W.heap.size ≤ b)) (e : p.block = a.block := by first | rfl | simp only [add_block]) : p.block ≠ b := by rw [e]; exact fl0_ h g
theorem bst_ {w W w2 : World} (k : Below W.heap.size W w2) (h : Below w.heap.size w W := by repeat (with_reducible first | exact HB.out | apply below_alloc | apply pw_below_drewN | apply below_drew1)) : Below w.heap.size w w2 := below_step h k
theorem bsz_ {w W : World} (h : Below w.heap.size w W := by repeat (with_reducible first | exact HB.out | apply below_alloc | apply pw_below_drewN | apply below_drew1)) : w.heap.size ≤ W.heap.size := below_size h
end Go.Proofs.Ytihcnbhcemkncaa.Ho
