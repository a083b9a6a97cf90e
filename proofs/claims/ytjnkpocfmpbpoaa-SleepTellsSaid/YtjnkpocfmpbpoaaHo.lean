/- Plain functions for slices.IndexFunc and slices.ContainsFunc at a predicate that may fail, and that more rounds tell the same. -/
import Derived.Test.YtjnkpocfmpbpoaaWWords
import Derived.Test.YtjnkpocfmpbpoaaWLast
import Derived.Test.YtjnkpocfmpbpoaaWMore
import Derived.Test.YtjnkpocfmpbpoaaWN
import Derived.Test.YtjnkpocfmpbpoaaWApart
namespace Go.Proofs.Ytjnkpocfmpbpoaa.Ho
open Go.RowKit Go.Proofs.YtjnkpocfmpbpoaaW.PrintWords Go.Proofs.YtjnkpocfmpbpoaaW.PrintLast
set_option linter.unusedVariables false
/-- The first place at which p holds, or -1. -/
def idxF {α : Type} (p : α → Option Bool) : List α → Int → Option Int
  | [], _ => some (-1)
  | x :: xs, i => (p x).bind fun b => if b = true then some i else idxF p xs (i + 1)
/-- Does p hold anywhere? -/
def anyF {α : Type} (p : α → Option Bool) : List α → Option Bool
  | [] => some false
  | x :: xs => (p x).bind fun b => if b = true then some true else anyF p xs
theorem anyF_mono {α : Type} {p q : α → Option Bool} (h : ∀ x, LeO (p x) (q x)) : ∀ (l : List α), LeO (anyF p l) (anyF q l)
  | [] => LeO.refl _
  | x :: xs => LeO.bind (h x) fun b => LeO.ite (LeO.refl _) (anyF_mono h xs)
/-- What ContainsFunc makes of IndexFunc. -/
theorem any_idx {α : Type} {p : α → Option Bool} : ∀ (l : List α) (i : Int) (b : Bool), 0 ≤ i → anyF p l = some b → ∃ r, idxF p l i = some r ∧ decide (0 ≤ r) = b
  | [], i, b, _, h => ⟨-1, rfl, by simp [anyF] at h; subst h; decide⟩
  | x :: xs, i, b, hi, h => by
    obtain ⟨c, hc, h⟩ := Option.bind_eq_some_iff.mp h
    cases c with
    | true => exact ⟨i, by simp [idxF, hc], by simp at h; subst h; simpa using hi⟩
    | false =>
      obtain ⟨r, hr, hd⟩ := any_idx xs (i + 1) b (by omega) (by simpa using h)
      exact ⟨r, by simp [idxF, hc, hr], hd⟩
theorem idxF_drop {α : Type} (p : α → Option Bool) (l : List α) (z : α) (k : Nat) (hk : k < l.length) (i : Int) : idxF p (l.drop k) i = (p (l.getD k z)).bind fun b => if b = true then some i else idxF p (l.drop (k + 1)) (i + 1) := by
  rw [List.drop_eq_getElem_cons hk]
  simp [idxF, List.getElem?_eq_getElem hk]
theorem bst_ {w W w2 : World} (k : Below W.heap.size W w2) (h : Below w.heap.size w W := by repeat (with_reducible first | exact HB.out | apply below_alloc | apply pw_below_drewN | apply below_drew1)) : Below w.heap.size w w2 := below_step h k
theorem bsz_ {w W : World} (h : Below w.heap.size w W := by repeat (with_reducible first | exact HB.out | apply below_alloc | apply pw_below_drewN | apply below_drew1)) : w.heap.size ≤ W.heap.size := below_size h
theorem vq_ {α : Type} {d : Kd α} {e : Nat} {W W' : World} {base : Nat} {ok : Nat → Prop} {v : Value} {xs : List α} (h : Aside0 (Kd.V d e W base ok v xs)) (k : Below W.heap.size W W' := by repeat (with_reducible first | exact Below.refl _ _ | apply below_alloc | apply pw_below_drewN | apply below_drew1)) : Kd.V d e W' base ok v xs := Kd.V_below h.out k
theorem nq_ {α : Type} {d : Kd α} {e : Nat} {W W' : World} {base : Nat} {ok : Nat → Prop} {v : Value} {xs : List α} (h : Aside0 (Kd.N d e W base ok v xs)) (k : Below W.heap.size W W' := by repeat (with_reducible first | exact Below.refl _ _ | apply below_alloc | apply pw_below_drewN | apply below_drew1)) : Kd.N d e W' base ok v xs := Kd.N_below h.out k
theorem rq_ {α : Type} {d : Kd α} {e : Nat} {W W' : World} {base : Nat} {ok : Nat → Prop} {v : Value} {xs : List α} (h : Aside0 (Kd.R d e W base ok v xs)) (k : Below W.heap.size W W' := by repeat (with_reducible first | exact Below.refl _ _ | apply below_alloc | apply pw_below_drewN | apply below_drew1)) : Kd.R d e W' base ok v xs := Kd.R_below h.out k
theorem bq_ {W W' : World} {g : Nat} {o : Obj} (h : Aside0 (W.heap[g]? = some o)) (k : Below W.heap.size W W' := by repeat (with_reducible first | exact Below.refl _ _ | apply below_alloc | apply pw_below_drewN | apply below_drew1)) : W'.heap[g]? = some o := blk_below h.out k
theorem bsw_ {w W : World} (h : Below w.heap.size w W := by repeat (with_reducible first | exact HB.out | apply below_alloc | apply pw_below_drewN | apply below_drew1 | refine below_set ?_ (Aside0.out (by assumption)))) : Below w.heap.size w W := h
theorem bsv_ {w W : World} (h : Below w.heap.size w W := by repeat (with_reducible first | exact HB.out | apply below_alloc | apply pw_below_drewN | apply below_drew1)) : Below w.heap.size w W := h
theorem oda_ {p : Prop} [Decidable p] (h : decide p = true := by first | (with_reducible assumption) | assumption) : p := of_decide_eq_true h
theorem mp_ {a b : Array Value} (h : a = b := by (try simp only [List.map_toArray, List.map_cons, List.map_nil]); first | done | rfl) : a = b := h
theorem vb_ {α : Type} {d : Kd α} {e : Nat} {W W1 W2 : World} {base : Nat} {ok : Nat → Prop} {v : Value} {xs : List α} (h : Aside0 (Kd.V d e W base ok v xs)) (hb : Below W1.heap.size W1 W2) (k : Below W.heap.size W W1 := by repeat (with_reducible first | exact Below.refl _ _ | apply below_alloc | apply pw_below_drewN | apply below_drew1)) : Aside0 (Kd.V d e W2 base ok v xs) := ⟨Kd.V_below (Kd.V_below h.out k) hb⟩
theorem nb_ {α : Type} {d : Kd α} {e : Nat} {W W1 W2 : World} {base : Nat} {ok : Nat → Prop} {v : Value} {xs : List α} (h : Aside0 (Kd.N d e W base ok v xs)) (hb : Below W1.heap.size W1 W2) (k : Below W.heap.size W W1 := by repeat (with_reducible first | exact Below.refl _ _ | apply below_alloc | apply pw_below_drewN | apply below_drew1)) : Aside0 (Kd.N d e W2 base ok v xs) := ⟨Kd.N_below (Kd.N_below h.out k) hb⟩
theorem rb_ {α : Type} {d : Kd α} {e : Nat} {W W1 W2 : World} {base : Nat} {ok : Nat → Prop} {v : Value} {xs : List α} (h : Aside0 (Kd.R d e W base ok v xs)) (hb : Below W1.heap.size W1 W2) (k : Below W.heap.size W W1 := by repeat (with_reducible first | exact Below.refl _ _ | apply below_alloc | apply pw_below_drewN | apply below_drew1)) : Aside0 (Kd.R d e W2 base ok v xs) := ⟨Kd.R_below (Kd.R_below h.out k) hb⟩
theorem bb_ {W W1 W2 : World} {g : Nat} {o : Obj} (h : Aside0 (W.heap[g]? = some o)) (hb : Below W1.heap.size W1 W2) (k : Below W.heap.size W W1 := by repeat (with_reducible first | exact Below.refl _ _ | apply below_alloc | apply pw_below_drewN | apply below_drew1)) : Aside0 (W2.heap[g]? = some o) := ⟨blk_below (blk_below h.out k) hb⟩
theorem cp_ {α : Type} {d : Kd α} {W W' : World} {A : Option Addr} {n : Nat} {xs : List α} (h : Aside0 (Kd.C d W A n xs)) (k : Below W.heap.size W W' := by repeat (with_reducible first | exact Below.refl _ _ | apply below_alloc | apply pw_below_drewN | apply below_drew1)) : Kd.C d W' A n xs := Kd.C_below h.out k
end Go.Proofs.Ytjnkpocfmpbpoaa.Ho
