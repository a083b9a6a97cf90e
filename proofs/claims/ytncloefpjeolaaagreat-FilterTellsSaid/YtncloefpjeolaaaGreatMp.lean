/- A map of functions by whole numbers, made anew, and what is found in it. -/
import Derived.Test.YtncloefpjeolaaaGreatWWords
import Derived.Test.YtncloefpjeolaaaGreatWLast
import Derived.Test.YtncloefpjeolaaaGreatWNEv
import Derived.MapKept
import Derived.Carry
namespace Go.Proofs.YtncloefpjeolaaaGreat.Mp
open Go.RowKit Go.Proofs.YtncloefpjeolaaaGreatW.PrintWords Go.Proofs.YtncloefpjeolaaaGreatW.PrintLast
set_option linter.unusedVariables false
set_option linter.unusedSimpArgs false
variable {P : Program}
theorem upd {mt kt et : TypeId} (hm : P.underlying mt = some (.map kt et)) (hd : P.underlying kt = some (.int .i64)) (w : World) (r : Nat) (es : Array MapEntry) (clock : Nat) (hb : w.heap[r]? = some (.map es clock)) (n : Int) (v : Value)
    (hnew : Instr.findNow (.int .i64) (.int .i64 n) es.toList 0 = some none) :
    (Instr.mapUpdate mt (.map (some r)) (.int .i64 n) v).run P w = .ok () { w with heap := w.heap.setIfInBounds r (.map (es.push { key := .int .i64 n, val := v, born := clock }) (clock + 1)) } := by
  simp [Instr.mapUpdate, run_underlying hm, MapKept.run_getObj_map hb, MapKept.run_checkKey hd (d := .int .i64) (k := .int .i64 n) rfl, MapKept.run_findKey hd hnew, MapKept.run_setObj_map _ hb]
theorem look {mt kt et : TypeId} (hm : P.underlying mt = some (.map kt et)) (hd : P.underlying kt = some (.int .i64)) (w : World) (r : Nat) (es : Array MapEntry) (clock : Nat) (hb : w.heap[r]? = some (.map es clock)) (n : Int) (i : Nat) (v : Value)
    (hf : Instr.findNow (.int .i64) (.int .i64 n) es.toList 0 = some (some (i, v))) :
    (Instr.lookup mt (.map (some r)) (.int .i64 n) false).run P w = .ok v w := by
  simp [Instr.lookup, run_underlying hm, MapKept.run_getObj_map hb, MapKept.run_checkKey hd (d := .int .i64) (k := .int .i64 n) rfl, MapKept.run_findKey hd hf]
def rows3 (f g h : Nat) : Array MapEntry := #[{ key := .int .i64 1, val := .func (.func f) #[] #[], born := 0 }, { key := .int .i64 2, val := .func (.func g) #[] #[], born := 1 }, { key := .int .i64 3, val := .func (.func h) #[] #[], born := 2 }]
theorem put1 {mt kt et : TypeId} (hm : P.underlying mt = some (.map kt et)) (hd : P.underlying kt = some (.int .i64)) (w : World) (w0 : World) (es : Array MapEntry) (clock : Nat) (hb : w0.heap[w.heap.size]? = some (.map es clock)) (hk : Below w.heap.size w w0) (n : Int) (v : Value)
    (hnew : Instr.findNow (.int .i64) (.int .i64 n) es.toList 0 = some none) :
    ∃ w1, (Instr.mapUpdate mt (.map (some w.heap.size)) (.int .i64 n) v).run P w0 = .ok () w1 ∧ w1.heap[w.heap.size]? = some (.map (es.push { key := .int .i64 n, val := v, born := clock }) (clock + 1)) ∧ Below w.heap.size w w1 :=
  ⟨_, upd hm hd w0 _ _ _ hb n v hnew, (MapKept.heap_set hb).1, hk.os, hk.tape, hk.output, by simpa using hk.size, fun i hi => ((MapKept.heap_set hb).2 i (Nat.ne_of_lt hi)).trans (hk.block i hi)⟩
theorem new1 (w : World) (t : TypeId) : ∃ w0, (Instr.makeMap t none).run P w = .ok (.map (some w.heap.size)) w0 ∧ w0.heap[w.heap.size]? = some (.map #[] 0) ∧ Below w.heap.size w w0 :=
  ⟨_, rfl, (MapKept.heap_alloc w _).1, rfl, rfl, rfl, by show w.heap.size ≤ (w.heap.push (.map #[] 0)).size; rw [Array.size_push]; exact Nat.le_succ _, (MapKept.heap_alloc w _).2⟩
variable {ops : Array Oper} {Q : Exit → Act → World → Prop}
/-- What a map of functions has at a number. -/
theorem look_ {oi : Oper} {N : Option Tmp} {a : Act} {w : World} {K : Act → World → Prop} {mt kt et : TypeId} {x ix : Operand} (hm : P.underlying mt = some (.map kt et)) (hd : P.underlying kt = some (.int .i64)) (hw : Region.wanted oi (yielded ops a.tmps) = true) (hN : oi.dst = N)
    (hop : oi.op = .lookup mt x ix false) {r : Nat} {n : Int} (hx : a.eval x = .map (some r)) (hi : a.eval ix = .int .i64 n) {es : Array MapEntry} {clock : Nat} (hb : w.heap[r]? = some (.map es clock)) {i : Nat} {v : Value} (hf : Instr.findNow (.int .i64) (.int .i64 n) es.toList 0 = some (some (i, v)))
    (h : K (a.put N v) w) : if Region.wanted oi (yielded ops a.tmps) = true then Oper.wp P oi a w K Q else K (a.put N undef) w := by
  rw [if_pos hw]
  subst hN
  unfold Oper.wp
  have hrun : (execOp a.eval oi).run P w = .ok (.value v) w := by
    unfold execOp
    simp [hop, hx, hi, look hm hd w r es clock hb n i v hf]
  rw [hrun]
  first | exact h | simpa using h
/-- A call of a function value. -/
theorem goesV_ {oi : Oper} {N : Option Tmp} {a : Act} {w : World} {K : Act → World → Prop} {f : FuncId} {fn : Func} {c : Operand} {as : Array Operand} {ts : Array TypeId} (hf : P.funcs[f]? = some fn) (hname : (fn.name == "runtime.NumGoroutine") = false) (hb : fn.body.isSome = true) (args : Array Value)
    (hw : Region.wanted oi (yielded ops a.tmps) = true) (hN : oi.dst = N) (hop : oi.op = .call { callee := .value c, args := as, argTypes := ts }) (hargs : as.map a.eval = args)
    (h : Calls P f args w fun e w' => ∃ v, e = .returned v ∧ K (a.put N v) w') (hc : a.eval c = .func (.func f) #[] #[] := by rfl) : if Region.wanted oi (yielded ops a.tmps) = true then Oper.wp P oi a w K Q else K (a.put N undef) w := by
  refine call_ f args hw hN ?_ h
  have he := enters_ hf hname hb args w
  unfold execOp
  simp [hop, resolve, Deferred.ofValue, invoke, hc, hargs, he]
end Go.Proofs.YtncloefpjeolaaaGreat.Mp
