/-
 PROVED: whether bytes are read, and as which codes, is what the document says, for all bytes. Condition: the argument is of its kind; nothing else.
-/
import Derived.Test.YtpeblomhhofhkaaHAllLem
import Derived.Test.YtpeblomhhofhkaaHx17
import Derived.Test.YtpeblomhhofhkaaHx19
namespace Go.Proofs.Ytpeblomhhofhkaa.H
open Go.RowKit Go.Proofs.YtpeblomhhofhkaaW.PrintWords Go.Proofs.YtpeblomhhofhkaaW.PrintLast Go.Proofs.YtpeblomhhofhkaaW.PrintMore Go.Proofs.Ytpeblomhhofhkaa.Ho
set_option linter.unusedVariables false
set_option linter.unusedSimpArgs false
/-! ### how the document reads -/
def atB (b : List Int) (p : Nat) : Int := b.getD p 0
theorem atB_rng {b : List Int} (hb : byts b) (p : Nat) : 0 ≤ atB b p ∧ atB b p ≤ 255 := by
 unfold atB
 by_cases h : p < b.length
 · exact hb _ (getD_mem b 0 p h)
 · rw [List.getD_eq_getElem?_getD, List.getElem?_eq_none (by omega)]
   exact ⟨by decide, by decide⟩
theorem at_f {b : List Int} (hb : byts b) (p : Nat) : handshakerref09_at.f b (p : Int) = some (atB b p) := by
 have hr := atB_rng hb p
 unfold handshakerref09_at.f
 by_cases h : (p : Int) < (b.length : Int)
 · rw [if_pos h, if_pos (by omega), show rd b (p : Int) = atB b p from rfl, wr (by omega) (by omega)]
 · rw [if_neg h]
   unfold atB
   rw [List.getD_eq_getElem?_getD, List.getElem?_eq_none (by omega)]; rfl
theorem at_k {b : List Int} (hb : byts b) (p j : Nat) (h : p + j ≤ 2000000000) : handshakerref09_at.f b (wrap64 ((p : Int) + (j : Int))) = some (atB b (p + j)) := by
 rw [wr (by omega) (by omega), show (p : Int) + (j : Int) = ((p + j : Nat) : Int) by omega, at_f hb]
def numB (b : List Int) (p : Nat) : Int := wrapN (((atB b p * 256 + atB b (p + 1)) * 256 + atB b (p + 2)) * 256 + atB b (p + 3))
theorem num_f {b : List Int} (hb : byts b) (p : Nat) (h : p + 3 ≤ 2000000000) : handshakerref09_number.f b (p : Int) = some (numB b p) := by
 have h1 := at_k hb p 1 (by omega)
 have h2 := at_k hb p 2 (by omega)
 have h3 := at_k hb p 3 (by omega)
 have r0 := atB_rng hb p
 have r1 := atB_rng hb (p + 1)
 have r2 := atB_rng hb (p + 2)
 have r3 := atB_rng hb (p + 3)
 unfold handshakerref09_number.f numB
 rw [at_f hb, Option.bind_some, show (1 : Int) = ((1 : Nat) : Int) from rfl, h1, Option.bind_some, show (2 : Int) = ((2 : Nat) : Int) from rfl, h2, Option.bind_some, show (3 : Int) = ((3 : Nat) : Int) from rfl, h3, Option.bind_some, wrapN_eq]
 generalize atB b p = x0 at *
 generalize atB b (p + 1) = x1 at *
 generalize atB b (p + 2) = x2 at *
 generalize atB b (p + 3) = x3 at *
 have e : wrap64 (wrap64 (wrap64 (wrap64 (x0 * 16777216) + wrap64 (x1 * 65536)) + wrap64 (x2 * 256)) + x3) = x0 * 16777216 + x1 * 65536 + x2 * 256 + x3 := by
  rw [wr (i := x0 * 16777216) (by omega) (by omega), wr (i := x1 * 65536) (by omega) (by omega), wr (i := x2 * 256) (by omega) (by omega), wr (i := x0 * 16777216 + x1 * 65536) (by omega) (by omega), wr (i := x0 * 16777216 + x1 * 65536 + x2 * 256) (by omega) (by omega), wr (by omega) (by omega)]
 rw [e]
 by_cases hg : x0 * 16777216 + x1 * 65536 + x2 * 256 + x3 > 2147483647
 · rw [if_pos hg, wr (by omega) (by omega)]
   congr 1
   unfold wrap32; omega
 · rw [if_neg hg]
   congr 1
   unfold wrap32; omega
def opsAt (b : List Int) : Nat → Nat → List TOp
 | _, 0 => []
 | p, n + 1 => ⟨atB b p, numB b (p + 1)⟩ :: opsAt b (p + 5) n
theorem opsAt_len (b : List Int) : ∀ (n p : Nat), (opsAt b p n).length = n
 | 0, _ => rfl
 | n + 1, p => by rw [opsAt, List.length_cons, opsAt_len b n]
def stepAt (b : List Int) (p : Nat) : Stp := ⟨atB b p, atB b (p + 1), atB b (p + 2), opsAt b (p + 4) (atB b (p + 3)).toNat⟩
def stepEnd (b : List Int) (p : Nat) : Nat := p + 4 + 5 * (atB b (p + 3)).toNat
def stepsAt (b : List Int) : Nat → Nat → List Stp × Nat
 | p, 0 => ([], p)
 | p, n + 1 => (stepAt b p :: (stepsAt b (stepEnd b p) n).1, (stepsAt b (stepEnd b p) n).2)
def codesAt (b : List Int) : Nat → Nat → List (List Stp) × Nat
 | p, 0 => ([], p)
 | p, n + 1 => ((stepsAt b (p + 1) (atB b p).toNat).1 :: (codesAt b (stepsAt b (p + 1) (atB b p).toNat).2 n).1, (codesAt b (stepsAt b (p + 1) (atB b p).toNat).2 n).2)
theorem stepEnd_le {b : List Int} (hb : byts b) (p : Nat) : stepEnd b p ≤ p + 1279 := by
 have := atB_rng hb (p + 3)
 unfold stepEnd; omega
theorem stepsAt_le {b : List Int} (hb : byts b) : ∀ (n p : Nat), (stepsAt b p n).2 ≤ p + 1279 * n
 | 0, p => by simp [stepsAt]
 | n + 1, p => by
  have h1 := stepEnd_le hb p
  have h2 := stepsAt_le hb n (stepEnd b p)
  simp only [stepsAt]
  omega
theorem Read_l2 {b : List Int} (hb : byts b) (cs : List (List RStp)) (x6 : Int) (st : List RStp) (x8 x9 m a1 a2 a3 : Int) (hm : m ≤ 255) (k : Nat) : ∀ (d p j : Nat) (t : List TOp), (j : Int) + (d : Int) = m → t.length ≤ j → p + 5 * d ≤ 1000000000 →
 handshakerref09_Read.l2 (k + d) b cs (p : Int) x6 st x8 x9 m (j : Int) a1 a2 a3 (refT t) = handshakerref09_Read.l2 k b cs ((p + 5 * d : Nat) : Int) x6 st x8 x9 m m a1 a2 a3 (refT (t ++ opsAt b p d))
 | 0, p, j, t, h, ht, hp => by
  rw [show (j : Int) = m by omega, opsAt, List.append_nil]; rfl
 | d + 1, p, j, t, h, ht, hp => by
  have next := Read_l2 hb cs x6 st x8 x9 m a1 a2 a3 hm k d (p + 5) (j + 1) (t ++ [⟨atB b p, numB b (p + 1)⟩]) (by omega) (by simp; omega) (by omega)
  rw [show p + 5 + 5 * d = p + 5 * (d + 1) by omega] at next
  show handshakerref09_Read.l2 ((k + d) + 1) b cs (p : Int) x6 st x8 x9 m (j : Int) a1 a2 a3 (refT t) = _
  have h1 := num_f hb (p + 1) (by omega)
  have e1 : wrap64 ((p : Int) + 1) = ((p + 1 : Nat) : Int) := wrN (by omega)
  have e5 : wrap64 ((p : Int) + 5) = ((p + 5 : Nat) : Int) := by rw [wr (by omega) (by omega)]; omega
  simp only [handshakerref09_Read.l2]
  rw [if_pos (by omega), at_f hb, Option.bind_some, e1, h1, Option.bind_some, if_pos (by rw [ref_len]; omega), e5, wrN (by omega)]
  rw [show refT t ++ [(⟨atB b p, numB b (p + 1)⟩ : ROp)] = refT (t ++ [⟨atB b p, numB b (p + 1)⟩]) by unfold refT; rw [List.map_append]; rfl, next, List.append_assoc]
  rfl
theorem Read_l1 {b : List Int} (hb : byts b) (cs : List (List RStp)) (x6 x8 : Int) (hx : x8 ≤ 255) : ∀ (d p j : Nat) (st : List Stp), (j : Int) + (d : Int) = x8 → st.length ≤ j → p + 1279 * d ≤ 900000000 →
 ∃ f, ∀ k, handshakerref09_Read.l1 (k + f) b cs (p : Int) x6 (refC st) x8 (j : Int) = handshakerref09_Read.l1 k b cs (((stepsAt b p d).2 : Nat) : Int) x6 (refC (st ++ (stepsAt b p d).1)) x8 x8
 | 0, p, j, st, h, ht, hp => ⟨0, fun k => by
  rw [show (j : Int) = x8 by omega, stepsAt, List.append_nil]; rfl⟩
 | d + 1, p, j, st, h, ht, hp => by
  have hle := stepEnd_le hb p
  obtain ⟨f, hf⟩ := Read_l1 hb cs x6 x8 hx d (stepEnd b p) (j + 1) (st ++ [stepAt b p]) (by omega) (by simp; omega) (by omega)
  have r3 := atB_rng hb (p + 3)
  refine ⟨f + 1 + (atB b (p + 3)).toNat + 1, fun k => ?_⟩
  have h1 := at_k hb p 1 (by omega)
  have h2 := at_k hb p 2 (by omega)
  have h3 := at_k hb p 3 (by omega)
  have e4 : wrap64 ((p : Int) + 4) = ((p + 4 : Nat) : Int) := by rw [wr (by omega) (by omega)]; omega
  have l2 := Read_l2 hb cs x6 (refC st) x8 (j : Int) (atB b (p + 3)) (atB b p) (atB b (p + 1)) (atB b (p + 2)) (by omega) (k + f + 1) (atB b (p + 3)).toNat (p + 4) 0 [] (by omega) (by simp) (by omega)
  rw [show k + (f + 1 + (atB b (p + 3)).toNat + 1) = (k + f + 1 + (atB b (p + 3)).toNat) + 1 by omega]
  simp only [handshakerref09_Read.l1]
  rw [if_pos (by omega), at_f hb, Option.bind_some, show (1 : Int) = ((1 : Nat) : Int) from rfl, h1, Option.bind_some, show (2 : Int) = ((2 : Nat) : Int) from rfl, h2, Option.bind_some, show (3 : Int) = ((3 : Nat) : Int) from rfl, h3, Option.bind_some, e4]
  refine Eq.trans l2 ?_
  simp only [handshakerref09_Read.l2]
  rw [if_neg (by omega), if_pos (by rw [refC_len]; omega), wrN (i := j) (by omega)]
  rw [show refC st ++ [(⟨atB b p, atB b (p + 1), atB b (p + 2), refT ([] ++ opsAt b (p + 4) (atB b (p + 3)).toNat)⟩ : RStp)] = refC (st ++ [stepAt b p]) by unfold refC; rw [List.map_append]; rfl]
  refine Eq.trans (hf k) ?_
  rw [List.append_assoc]; rfl
theorem Read_l0 {b : List Int} (hb : byts b) : ∀ (d p j : Nat) (cs : List (List Stp)), (j : Int) + (d : Int) = atB b 0 → cs.length ≤ j → p + 400000 * d ≤ 800000000 →
 ∃ f, ∀ k, handshakerref09_Read.l0 (k + f) b (refCs cs) (p : Int) (j : Int) = handshakerref09_Read.l0 k b (refCs (cs ++ (codesAt b p d).1)) (((codesAt b p d).2 : Nat) : Int) (atB b 0)
 | 0, p, j, cs, h, ht, hp => ⟨0, fun k => by
  rw [show (j : Int) = atB b 0 by omega, codesAt, List.append_nil]; rfl⟩
 | d + 1, p, j, cs, h, ht, hp => by
  have r0 := atB_rng hb 0
  have rp := atB_rng hb p
  have hle := stepsAt_le hb (atB b p).toNat (p + 1)
  have hle2 : 1279 * (atB b p).toNat ≤ 1279 * 255 := Nat.mul_le_mul_left _ (by omega)
  obtain ⟨f, hf⟩ := Read_l0 hb d (stepsAt b (p + 1) (atB b p).toNat).2 (j + 1) (cs ++ [(stepsAt b (p + 1) (atB b p).toNat).1]) (by omega) (by simp; omega) (by omega)
  obtain ⟨g, hg⟩ := Read_l1 hb (refCs cs) (j : Int) (atB b p) (by omega) (atB b p).toNat (p + 1) 0 [] (by omega) (by simp) (by omega)
  refine ⟨f + 1 + g + 1, fun k => ?_⟩
  have e1 : wrap64 ((p : Int) + 1) = ((p + 1 : Nat) : Int) := wrN (by omega)
  have ej : wrap64 ((j : Int) + 1) = ((j + 1 : Nat) : Int) := wrN (by omega)
  have a0 : handshakerref09_at.f b 0 = some (atB b 0) := at_f hb 0
  rw [show k + (f + 1 + g + 1) = (k + f + 1 + g) + 1 by omega]
  simp only [handshakerref09_Read.l0]
  rw [a0, Option.bind_some, if_pos (by omega), at_f hb, Option.bind_some, e1]
  refine Eq.trans (hg (k + f + 1)) ?_
  simp only [handshakerref09_Read.l1]
  rw [if_neg (by omega), if_pos (by rw [refCs_len]; omega), ej, List.nil_append, show refCs cs ++ [refC (stepsAt b (p + 1) (atB b p).toNat).1] = refCs (cs ++ [(stepsAt b (p + 1) (atB b p).toNat).1]) by unfold refCs; rw [List.map_append]; rfl]
  refine Eq.trans (hf k) ?_
  rw [List.append_assoc]; rfl
def allAt (b : List Int) : List (List Stp) := (codesAt b 1 (atB b 0).toNat).1
theorem rRead_f {b : List Int} (hb : byts b) : ∃ f, ∀ k, 4000 < k → handshakerref09_Read.f (k + f) b = some (if (writeB (allAt b)).2 = 0 ∧ bytesL (allAt b) = b then (refCs (allAt b), true) else ([], false)) := by
 have r0 := atB_rng hb 0
 obtain ⟨f, hf⟩ := Read_l0 hb (atB b 0).toNat 1 0 [] (by omega) (by simp) (by omega)
 refine ⟨f, fun k hk => ?_⟩
 have a0 : handshakerref09_at.f b 0 = some (atB b 0) := at_f hb 0
 unfold handshakerref09_Read.f
 refine Eq.trans (hf k) ?_
 obtain ⟨k, rfl⟩ : ∃ m, k = m + 1 := ⟨k - 1, by omega⟩
 rw [List.nil_append, show (codesAt b 1 (atB b 0).toNat).1 = allAt b from rfl]
 simp only [handshakerref09_Read.l0]
 rw [a0, Option.bind_some, if_neg (by omega)]
 generalize allAt b = l
 by_cases hw : (writeB l).2 = 0
 · obtain ⟨_, _, e⟩ := write_ok hw
   by_cases hs : bytesL l = b
   · rw [if_pos ⟨hw, hs⟩, rWrite_f k l (by omega), Option.bind_some, if_pos (decide_eq_true hw), e]
     dsimp only
     rw [if_pos (by rw [hs])]
   · rw [if_neg (fun g => hs g.2), rWrite_f k l (by omega), Option.bind_some, if_pos (decide_eq_true hw), e]
     dsimp only
     rw [if_neg (fun g => hs (str_inj (byts_all l) hb g))]
 · rw [if_neg (fun g => hw g.1), rWrite_f k l (by omega), Option.bind_some, if_neg (by simp [hw])]
/-! ### what both read -/
theorem at_cons {b : List Int} {p : Nat} {x : Int} {r : List Int} (h : b.drop p = x :: r) : atB b p = x ∧ b.drop (p + 1) = r := by
 constructor
 · have e : (b.drop p)[0]? = some x := by rw [h]; rfl
   rw [List.getElem?_drop] at e
   unfold atB
   rw [List.getD_eq_getElem?_getD, show p = p + 0 from rfl, e]; rfl
 · rw [← List.drop_drop, h]; rfl
theorem num_cons {b : List Int} {p : Nat} {n : Int} {r : List Int} (hn : i32R n) (h : b.drop p = b4 n ++ r) : numB b p = n ∧ b.drop (p + 4) = r := by
 obtain ⟨e0, h1⟩ := at_cons (show b.drop p = (n / 16777216) % 256 :: ((n / 65536) % 256 :: (n / 256) % 256 :: n % 256 :: r) from h)
 obtain ⟨e1, h2⟩ := at_cons h1
 obtain ⟨e2, h3⟩ := at_cons h2
 obtain ⟨e3, h4⟩ := at_cons h3
 refine ⟨?_, h4⟩
 unfold numB
 rw [e0, e1, show p + 1 + 1 = p + 2 from rfl] at *
 rw [e2, show p + 2 + 1 = p + 3 from rfl] at *
 rw [e3, wrapN_eq]
 unfold wrap32
 omega
theorem opsAt_read {b : List Int} : ∀ (us : List TOp) (p : Nat) (r : List Int), (∀ o ∈ us, fineO o) → b.drop p = us.flatMap opB ++ r → opsAt b p us.length = us ∧ b.drop (p + 5 * us.length) = r
 | [], p, r, _, h => ⟨rfl, h⟩
 | o :: us, p, r, hf, h => by
  have ho := hf o (by simp)
  rw [List.flatMap_cons, List.append_assoc] at h
  obtain ⟨e0, h1⟩ := at_cons (show b.drop p = o.f0 % 256 :: (b4 o.f1 ++ (us.flatMap opB ++ r)) from h)
  obtain ⟨e1, h2⟩ := num_cons ho.2 h1
  obtain ⟨e2, h3⟩ := opsAt_read us (p + 5) r (fun x hx => hf x (by simp [hx])) h2
  rw [List.length_cons]
  refine ⟨?_, by rw [show p + 5 * (us.length + 1) = p + 5 + 5 * us.length by omega]; exact h3⟩
  rw [opsAt, e0, e1, e2, show o.f0 % 256 = o.f0 by have := ho.1; omega]
theorem stepAt_read {b : List Int} (s : Stp) (p : Nat) (r : List Int) (hf : fineS s) (h : b.drop p = stepB s ++ r) : stepAt b p = s ∧ b.drop (stepEnd b p) = r := by
 obtain ⟨f0, f1, f2, f3, f4⟩ := hf
 unfold stepB at h
 rw [List.append_assoc] at h
 obtain ⟨e0, h1⟩ := at_cons (show b.drop p = s.f0 % 256 :: (s.f1 % 256 :: s.f2 % 256 :: (s.f3.length : Int) % 256 :: (s.f3.flatMap opB ++ r)) from h)
 obtain ⟨e1, h2⟩ := at_cons h1
 obtain ⟨e2, h3⟩ := at_cons h2
 obtain ⟨e3, h4⟩ := at_cons h3
 obtain ⟨e4, h5⟩ := opsAt_read s.f3 (p + 4) r f4 h4
 have e3' : (atB b (p + 3)).toNat = s.f3.length := by rw [show p + 3 = p + 1 + 1 + 1 from rfl, e3]; omega
 unfold stepAt stepEnd
 rw [e3', e4, e0, e1, show p + 2 = p + 1 + 1 from rfl, e2, show s.f0 % 256 = s.f0 by omega, show s.f1 % 256 = s.f1 by omega, show s.f2 % 256 = s.f2 by omega]
 exact ⟨rfl, h5⟩
theorem stepsAt_read {b : List Int} : ∀ (us : List Stp) (p : Nat) (r : List Int), (∀ s ∈ us, fineS s) → b.drop p = us.flatMap stepB ++ r → (stepsAt b p us.length).1 = us ∧ b.drop (stepsAt b p us.length).2 = r
 | [], p, r, _, h => ⟨rfl, h⟩
 | s :: us, p, r, hf, h => by
  rw [List.flatMap_cons, List.append_assoc] at h
  obtain ⟨e0, h1⟩ := stepAt_read s p _ (hf s (by simp)) h
  obtain ⟨e2, h3⟩ := stepsAt_read us (stepEnd b p) r (fun x hx => hf x (by simp [hx])) h1
  rw [List.length_cons]
  simp only [stepsAt]
  rw [e0, e2]
  exact ⟨rfl, h3⟩
theorem codesAt_read {b : List Int} : ∀ (us : List (List Stp)) (p : Nat) (r : List Int), (∀ c ∈ us, fineC c) → b.drop p = us.flatMap codeB ++ r → (codesAt b p us.length).1 = us
 | [], p, r, _, h => rfl
 | c :: us, p, r, hf, h => by
  have hc := hf c (by simp)
  rw [List.flatMap_cons, List.append_assoc] at h
  obtain ⟨e0, h1⟩ := at_cons (show b.drop p = (c.length : Int) % 256 :: (c.flatMap stepB ++ (us.flatMap codeB ++ r)) from h)
  have e0' : (atB b p).toNat = c.length := by rw [e0]; omega
  obtain ⟨e2, h3⟩ := stepsAt_read c (p + 1) _ hc.2 h1
  rw [List.length_cons]
  simp only [codesAt]
  rw [e0', e2, codesAt_read us _ r (fun x hx => hf x (by simp [hx])) h3]
theorem allAt_read {l : List (List Stp)} (hl : l.length ≤ 255) (h : ∀ c ∈ l, fineC c) : allAt (bytesL l) = l := by
 obtain ⟨e0, h1⟩ := at_cons (show (bytesL l).drop 0 = (l.length : Int) % 256 :: (l.flatMap codeB ++ []) by rw [List.append_nil]; rfl)
 have e0' : (atB (bytesL l) 0).toNat = l.length := by rw [e0]; omega
 unfold allAt
 rw [e0']
 exact codesAt_read l 1 [] h h1
theorem rRead_same {b : List Int} (hb : byts b) : (if (writeB (allAt b)).2 = 0 ∧ bytesL (allAt b) = b then (refCs (allAt b), true) else ([], false)) = (refCs (readB b).1, decide ((readB b).2 = 0)) := by
 by_cases h : (readB b).2 = 0
 · obtain ⟨l, e, hw, eb⟩ := read_ok hb h
   obtain ⟨h8, hok, _⟩ := write_ok hw
   have ea : allAt b = l := by rw [eb]; exact allAt_read (by omega) (fun c hc => check_fine (hok c hc))
   rw [ea, if_pos ⟨hw, eb.symm⟩, e]; rfl
 · rw [if_neg, read_no h]
   · rfl
   · intro g
     apply h
     have := read_write g.1 []
     rw [List.append_nil, if_pos rfl, g.2] at this
     rw [this]
theorem ShapeReads : handshakerlaw09_ShapeReads.Pure := by
 intro b hb1 hb2 hb3
 have hby : byts b := fun x hx => by
  have := hb3 x hx
  simpa [Lit.wf, IntKind.bits, IntKind.signed, IntKind.min, IntKind.max] using this
 obtain ⟨f, hf⟩ := rRead_f hby
 refine ⟨5000 + f + 1, ?_⟩
 have hr := hf 5000 (by omega)
 rw [rRead_same hby] at hr
 generalize hK : 5000 + f = K at *
 unfold handshakerlaw09_ShapeReads.f
 have aw : handshakerlaw09_ShapeReads.j0 (K + 1) b true = some true := by
  simp only [handshakerlaw09_ShapeReads.j0]
  rw [if_pos trivial, awake9 K (by omega)]; rfl
 have main : handshakerlaw09_ShapeReads.j0 (K + 1) b false = some true := by
  simp only [handshakerlaw09_ShapeReads.j0]
  rw [if_neg (by decide), Read_f K b hby (by omega), Option.bind_some, hr, Option.bind_some]
  by_cases h : (readB b).2 = 0
  · obtain ⟨l, e, hw, eb⟩ := read_ok hby h
    obtain ⟨h8, hok, _⟩ := write_ok hw
    have hsm : ∀ c ∈ l, smallC c := fun c hc => ok_small (hok c hc)
    rw [e]
    dsimp only
    rw [Refs_f K l (by omega) hsm (by omega), Option.bind_some, same_refs K l (by omega) hsm (by omega), Option.bind_some, if_pos rfl, if_pos rfl, if_pos (decide_eq_true rfl), awake9 K (by omega)]; rfl
  · rw [read_no h]
    dsimp only
    rw [Refs_f K [] (by simp) (fun c hc => absurd hc (by simp)) (by omega), Option.bind_some, same_refs K [] (by simp) (fun c hc => absurd hc (by simp)) (by omega), Option.bind_some, if_pos rfl, if_neg (by decide), if_neg (by simp), if_pos rfl, awake9 K (by omega)]; rfl
 by_cases h1 : (b.length : Int) > 400
 · rw [if_pos h1]; exact aw
 rw [if_neg h1]
 by_cases h2 : (b.length : Int) > 0
 · rw [if_pos h2, if_pos (by omega)]
   cases decide (rd b 0 > 20) with
   | true => exact aw
   | false => exact main
 · rw [if_neg h2]; exact main
end Go.Proofs.Ytpeblomhhofhkaa.H
namespace Go.Proofs.Ytpeblomhhofhkaa.Pure
theorem ShapeReads : Go.Proofs.Ytpeblomhhofhkaa.H.handshakerlaw09_ShapeReads.Pure := Go.Proofs.Ytpeblomhhofhkaa.H.ShapeReads
end Go.Proofs.Ytpeblomhhofhkaa.Pure
