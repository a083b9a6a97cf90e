/-
 PROVED: Plain lemmas on numbers and lists, of what the printed functions answer. No condition beside those of each lemma.
-/
import Derived.Test.YtihcnbhcemkncaaBLem
import Derived.Test.YtihcnbhcemkncaaBx8
import Derived.Test.YtihcnbhcemkncaaBx15
namespace Go.Proofs.Ytihcnbhcemkncaa.B
open Go.RowKit Go.Proofs.YtihcnbhcemkncaaW.PrintWords Go.Proofs.YtihcnbhcemkncaaW.PrintLast Go.Proofs.YtihcnbhcemkncaaW.PrintMore Go.Proofs.Ytihcnbhcemkncaa.Ho
set_option linter.unusedVariables false
set_option linter.unusedSimpArgs false
/-! ### who defers holds -/
theorem same_refl (x : List S39) (hx : x.length < 4398046511104) (ha : ∀ j ∈ x, j.f1.length ≤ 30) (n : Nat) (hn : 40 * x.length ≤ n) : ∀ (d k i : Nat), i ≤ x.length → x.length - i = d → 40 * d < k →
 handshakerref22_Same.l0 k x x (i : Int) = some true := by
 intro d
 induction d with
 | zero =>
  intro k i hi hd hk
  obtain ⟨k, rfl⟩ : ∃ m, k = m + 1 := ⟨k - 1, by omega⟩
  simp only [handshakerref22_Same.l0]
  rw [if_neg (by omega)]
 | succ d ih =>
  intro k i hi hd hk
  obtain ⟨k, rfl⟩ : ∃ m, k = m + 2 := ⟨k - 2, by omega⟩
  have hmem := ha _ (getD_in x z39 i (by omega))
  simp only [handshakerref22_Same.l0, handshakerref22_Same.j1]
  rw [if_pos (by omega), if_pos (by omega), if_pos (by omega), if_pos trivial, if_neg (by simp)]
  have inner : ∀ (e k m : Nat), m ≤ (x.getD i z39).f1.length → (x.getD i z39).f1.length - m = e → e + 40 * d + 1 < k → handshakerref22_Same.l1 k x x (i : Int) (m : Int) = some true := by
   intro e
   induction e with
   | zero =>
    intro k m hm he hk
    obtain ⟨k, rfl⟩ : ∃ q, k = q + 1 := ⟨k - 1, by omega⟩
    simp only [handshakerref22_Same.l1]
    rw [if_pos (by omega), if_pos (by omega), show rd_T39 x (i : Int) = x.getD i z39 from rfl, if_neg (by omega), wrN (by omega)]
    exact ih k (i + 1) (by omega) (by omega) (by omega)
   | succ e ihe =>
    intro k m hm he hk
    obtain ⟨k, rfl⟩ : ∃ q, k = q + 1 := ⟨k - 1, by omega⟩
    simp only [handshakerref22_Same.l1]
    rw [if_pos (by omega), if_pos (by omega), show rd_T39 x (i : Int) = x.getD i z39 from rfl, if_pos (by omega), if_pos (by omega), if_pos (by omega), if_pos (by omega), if_neg (by simp), wrN (by omega)]
    exact ihe k (m + 1) (by omega) (by omega) (by omega)
  exact inner _ k 0 (by omega) rfl (by omega)
theorem Same22_f (k : Nat) (x : List S39) (hx : x.length < 4398046511104) (ha : ∀ j ∈ x, j.f1.length ≤ 30) (hk : 40 * x.length < k) : handshakerref22_Same.f k x x = some true := by
 unfold handshakerref22_Same.f
 rw [if_pos rfl]
 exact same_refl x hx ha (40 * x.length) (Nat.le_refl _) x.length k 0 (by omega) (by omega) hk
def refA (a : Ac) : S87 := ⟨a.f0, a.f1, a.f2⟩
def refJ (j : Jb) : S39 := ⟨j.f0, j.f1.map refA⟩
theorem Refs_l (l : List Jb) (hl : l.length < 4398046511104) (ha : ∀ j ∈ l, j.f1.length ≤ 20) : ∀ (d k i : Nat), i ≤ l.length → l.length - i = d → 30 * d < k →
 handshakerlaw22_Refs.l0 k ((l.take i).map refJ) l (l.length : Int) (i : Int) = some (l.map refJ) := by
 intro d
 induction d with
 | zero =>
  intro k i hi hd hk
  obtain ⟨k, rfl⟩ : ∃ m, k = m + 1 := ⟨k - 1, by omega⟩
  simp only [handshakerlaw22_Refs.l0]
  rw [if_neg (by omega), List.take_of_length_le (by omega)]
 | succ d ih =>
  intro k i hi hd hk
  obtain ⟨k, rfl⟩ : ∃ m, k = m + 1 := ⟨k - 1, by omega⟩
  have hmem := ha _ (getD_in l z25 i (by omega))
  have hs := take_snG l z25 i (by omega)
  simp only [handshakerlaw22_Refs.l0]
  rw [if_pos (by omega), if_pos (by omega), if_pos (by omega), show rd_T25 l (i : Int) = l.getD i z25 from rfl]
  generalize hj : l.getD i z25 = j at *
  have inner : ∀ (e k m : Nat), m ≤ j.f1.length → j.f1.length - m = e → e + 30 * d + 1 < k → handshakerlaw22_Refs.l1 k ((l.take i).map refJ) l (l.length : Int) (i : Int) j.f1 (j.f1.length : Int) (m : Int) j.f0 ((j.f1.take m).map refA) = some (l.map refJ) := by
   intro e
   induction e with
   | zero =>
    intro k m hm he hk
    obtain ⟨k, rfl⟩ : ∃ q, k = q + 1 := ⟨k - 1, by omega⟩
    simp only [handshakerlaw22_Refs.l1]
    rw [if_neg (by omega), if_pos (by rw [List.length_map, List.length_take]; omega), wrN (by omega)]
    have := ih k (i + 1) (by omega) (by omega) (by omega)
    rw [hs, List.map_append] at this
    rw [List.take_of_length_le (l := j.f1) (i := m) (by omega)]
    exact this
   | succ e ihe =>
    intro k m hm he hk
    obtain ⟨k, rfl⟩ : ∃ q, k = q + 1 := ⟨k - 1, by omega⟩
    simp only [handshakerlaw22_Refs.l1]
    rw [if_pos (by omega), if_pos (by omega), if_pos (by omega), if_pos (by rw [List.length_map, List.length_take]; omega), wrN (by omega)]
    have := ihe k (m + 1) (by omega) (by omega) (by omega)
    rw [take_snG j.f1 z61 m (by omega), List.map_append] at this
    exact this
  have := inner j.f1.length k 0 (by omega) (by omega) (by omega)
  exact this
theorem Refs_f (k : Nat) (l : List Jb) (hl : l.length < 4398046511104) (ha : ∀ j ∈ l, j.f1.length ≤ 20) (hk : 30 * l.length < k) : handshakerlaw22_Refs.f k l = some (l.map refJ) := by
 unfold handshakerlaw22_Refs.f
 exact Refs_l l hl ha l.length k 0 (by omega) (by omega) hk
theorem SameRefs_f (k : Nat) (l : List Jb) (hl : l.length ≤ 30) (ha : ∀ j ∈ l, j.f1.length ≤ 20) (hk : 1300 < k) : handshakerref22_Same.f k (l.map refJ) (l.map refJ) = some true := by
 refine Same22_f k _ (by rw [List.length_map]; omega) (fun j hj => ?_) (by rw [List.length_map]; omega)
 obtain ⟨x, hx, rfl⟩ := List.mem_map.1 hj
 show (x.f1.map refA).length ≤ 30
 rw [List.length_map]
 have := ha x hx
 omega
theorem Same_l (h : List S66) (hm : h.length < 4398046511104) (d : Nat) : ∀ (k i : Nat), i ≤ h.length → h.length - i = d → d < k → handshakerref02_Same.l0 k h h (i : Int) = some true := by
 induction d with
 | zero =>
  intro k i hi hd hk
  obtain ⟨k, rfl⟩ : ∃ m, k = m + 1 := ⟨k - 1, by omega⟩
  simp only [handshakerref02_Same.l0]
  rw [if_neg (by omega)]
 | succ d ih =>
  intro k i hi hd hk
  obtain ⟨k, rfl⟩ : ∃ m, k = m + 1 := ⟨k - 1, by omega⟩
  simp only [handshakerref02_Same.l0]
  rw [if_pos (by omega), if_pos (by omega), if_pos (by omega), if_neg (by simp), wrN (by omega)]
  exact ih k (i + 1) (by omega) (by omega) (by omega)
theorem Same_f (k : Nat) (h : List S66) (hm : h.length < 4398046511104) (hk : h.length < k) : handshakerref02_Same.f k h h = some true := by
 unfold handshakerref02_Same.f
 rw [if_pos rfl]
 have := Same_l h hm h.length k 0 (by omega) (by omega) (by omega)
 simpa using this
end Go.Proofs.Ytihcnbhcemkncaa.B
