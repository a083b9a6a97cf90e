/-
 PROVED: Plain lemmas on numbers and lists, of what the printed functions answer. No condition beside those of each lemma.
-/
import Derived.Test.YtihcnbhcemkncaaBLem
import Derived.Test.YtihcnbhcemkncaaBx7
namespace Go.Proofs.Ytihcnbhcemkncaa.B
open Go.RowKit Go.Proofs.YtihcnbhcemkncaaW.PrintWords Go.Proofs.YtihcnbhcemkncaaW.PrintLast Go.Proofs.YtihcnbhcemkncaaW.PrintMore Go.Proofs.Ytihcnbhcemkncaa.Ho
set_option linter.unusedVariables false
set_option linter.unusedSimpArgs false
/-! ### all of them, and each by itself -/
theorem doB_len (l : List Jb) (w : Int) (h : List Cl) : (doB l w h).1.length ≤ l.length := by
 unfold doB
 split
 · split
   · exact Nat.le_refl _
   · next p hp =>
     split
     · have := (cut_some (show cutJ l w = some (p.1, p.2) from hp)).2.2.2.1; show p.2.length ≤ _; omega
     · exact Nat.le_refl _
 · exact Nat.le_refl _
def allL (l0 : List Jb) (h0 : List Cl) : List Int → List Jb → List Cl → List Jb × List Cl × Int
 | [], x, g => if x.length > 0 then (l0, h0, 3) else (x, g, 0)
 | w :: ws, x, g => if (doB x w g).2.2 = 0 then allL l0 h0 ws (doB x w g).1 (doB x w g).2.1 else (l0, h0, (doB x w g).2.2)
theorem All_l (l0 : List Jb) (h0 : List Cl) (os : List Int) (hm : os.length < 4611686018427387904) (d : Nat) : ∀ (k i : Nat) (x : List Jb) (g : List Cl), i ≤ os.length → os.length - i = d → d + x.length + 40 < k → x.length < 4398046511104 →
 after_All.l0 k l0 h0 x g os (os.length : Int) (i : Int) = some (allL l0 h0 (os.drop i) x g) := by
 induction d with
 | zero =>
  intro k i x g hi hd hk hx
  obtain ⟨k, rfl⟩ : ∃ m, k = m + 1 := ⟨k - 1, by omega⟩
  simp only [after_All.l0]
  rw [if_neg (by omega), List.drop_of_length_le (by omega)]
  simp only [allL]
  by_cases h : x.length > 0
  · rw [if_pos (by omega), if_pos h]
  · rw [if_neg (by omega), if_neg h]
 | succ d ih =>
  intro k i x g hi hd hk hx
  obtain ⟨k, rfl⟩ : ∃ m, k = m + 1 := ⟨k - 1, by omega⟩
  simp only [after_All.l0]
  rw [if_pos (by omega), if_pos (by omega), if_pos (by omega), drop_cons os 0 i (by omega), wrN (by omega), show rd os (i : Int) = os.getD i 0 from rfl, Do_f k x _ g hx (by omega)]
  simp only [Option.bind_some, allL]
  have hl := doB_len x (os.getD i 0) g
  by_cases he : (doB x (os.getD i 0) g).2.2 = 0
  · rw [if_pos he, if_pos he]
    exact ih k (i + 1) _ _ (by omega) (by omega) (by omega) (by omega)
  · rw [if_neg he, if_neg he]
def allB (l : List Jb) (h : List Cl) (os : List Int) : List Jb × List Cl × Int := if rightJ l = true ∧ RightB h = true then allL l h os l h else (l, h, 1)
theorem All_f (k : Nat) (l : List Jb) (h : List Cl) (os : List Int) (hm : os.length < 4611686018427387904) (hl : l.length < 4398046511104) (hk : os.length + l.length + 50 < k) : after_All.f k l h os = some (allB l h os) := by
 obtain ⟨k, rfl⟩ : ∃ m, k = m + 1 := ⟨k - 1, by omega⟩
 unfold after_All.f allB
 rw [RightJ_f _ l hl (by omega), Right_f]
 simp only [Option.bind_some]
 by_cases hr : rightJ l = true
 · rw [if_pos hr]
   by_cases hh : RightB h = true
   · rw [if_pos ⟨hr, hh⟩, hh]
     simp only [after_All.j0]
     rw [if_neg (by decide)]
     have := All_l l h os hm os.length k 0 l h (by omega) (by omega) (by omega) hl
     exact this
   · rw [if_neg (fun e => hh e.2), Bool.eq_false_iff.2 hh]
     simp only [after_All.j0]
     rw [if_pos (by decide)]
 · rw [if_neg hr, if_neg (fun e => hr e.1)]
   simp only [after_All.j0]
   rw [if_pos trivial]
abbrev of (l : List Jb) (v : Int) : List Jb := l.filter fun j => j.f0 == v
/-- Behind the jobs e of l, done on h: x is left, and the heap is g. -/
def Ran (l : List Jb) (h : List Cl) (e x : List Jb) (g : List Cl) : Prop :=
 x.Sublist l ∧ (∀ j ∈ e, j ∈ l) ∧ (∀ j ∈ e, doable h j = true) ∧ g = e.foldl jobS h ∧ ∀ v : Int, of l v = of e v ++ of x v
/-! a cell -/
def cellA (c : Nat) (v : Int) (ac : List Ac) : Int := ac.foldl (fun v a => if a.f0.toNat = c then actV a v else v) v
def cellJ (c : Nat) (v : Int) (e : List Jb) : Int := e.foldl (fun v j => cellA c v j.f1) v
end Go.Proofs.Ytihcnbhcemkncaa.B
