/-
 PROVED: what any reads have is what the document says, and may be watched, if its cells are below 64; for all reads and numbers. Condition: each argument is of its kind; nothing else.
-/
import Derived.Test.YtjnkpocfmpbpoaaSeLem6
import Derived.Test.YtjnkpocfmpbpoaaSex7
import Derived.Test.YtjnkpocfmpbpoaaSex11
import Derived.Test.YtjnkpocfmpbpoaaSex12
namespace Go.Proofs.Ytjnkpocfmpbpoaa.Se
open Go.RowKit Go.Proofs.YtjnkpocfmpbpoaaW.PrintWords Go.Proofs.YtjnkpocfmpbpoaaW.PrintLast Go.Proofs.YtjnkpocfmpbpoaaW.PrintMore Go.Proofs.Ytjnkpocfmpbpoaa.Ho
set_option linter.unusedVariables false
set_option linter.unusedSimpArgs false
/-! ### what is watched may be -/
theorem rWatched_l (l : List Rd) (hr : rightR l = true) (hl : l.length ≤ 64) (d : Nat) : ∀ (k i : Nat), i ≤ (cellsR l).length → (cellsR l).length - i = d → d + 200 < k →
 handshakerref15_Watched.l0 k l (((cellsR l).take i).map fun c => (⟨c, (findR l c).2.2.1⟩ : Wr)) (cellsR l) (i : Int) = some (watchedR l) := by
 have hcl := cellsR_le l
 induction d with
 | zero =>
  intro k i hi hd hk
  obtain ⟨k, rfl⟩ : ∃ m, k = m + 1 := ⟨k - 1, by omega⟩
  simp only [handshakerref15_Watched.l0]
  rw [if_neg (by omega), List.take_of_length_le (by omega)]; rfl
 | succ d ih =>
  intro k i hi hd hk
  obtain ⟨k, rfl⟩ : ∃ m, k = m + 1 := ⟨k - 1, by omega⟩
  have next := ih k (i + 1) (by omega) (by omega) (by omega)
  rw [take_snG (cellsR l) 0 i (by omega), List.map_append] at next
  have hmem := getD_in (cellsR l) 0 i (by omega)
  simp only [handshakerref15_Watched.l0]
  rw [if_pos (by omega), if_pos (by omega), show rd (cellsR l) (i : Int) = (cellsR l).getD i 0 from rfl, rFindR_f k l _ (by omega) (by omega), Option.bind_some, wrN (by omega)]
  generalize (cellsR l).getD i 0 = c at *
  obtain ⟨x, hx, ex⟩ := (cellsR_mem hr c).1 hmem
  rcases plc_cases l c with ⟨_, h⟩ | ⟨j, hj, e, h, _⟩
  · exact absurd ex (h x hx)
  · have hv : (findR l c).2.2.1 = (l.getD j z57).f2 := by
     unfold findR
     rw [e, if_pos ⟨by omega, hr⟩]; rfl
    rw [e, if_pos (by omega), if_pos (by omega), if_pos (by rw [List.length_map, List.length_take]; omega), show rd_T57 l (j : Int) = l.getD j z57 from rfl, ← hv]
    exact next
theorem rWatched_f (k : Nat) (l : List Rd) (hl : l.length ≤ 64) (hk : 5100 < k) : handshakerref15_Watched.f k l = some (watchedR l) := by
 have hcl := cellsR_le l
 unfold handshakerref15_Watched.f
 rw [rRightR_f k l hl (by omega), Option.bind_some]
 by_cases hr : rightR l = true
 · rw [if_pos hr, rCellsR_f k l hl hr (by omega), Option.bind_some]
   have := rWatched_l l hr hl (cellsR l).length k 0 (by omega) (by omega) (by omega)
   exact this
 · rw [if_neg hr]
   unfold watchedR cellsR
   rw [if_neg hr]
   rfl
theorem watched_may {l : List Rd} (h : ∀ x ∈ l, x.f0 ≤ 63) : watchB (watchedR l) = true := by
 rw [watchB_iff]
 by_cases hr : rightR l = true
 · have hP := (rightR_iff l).1 hr
   have hup := cellsR_up hr
   have hlen : (watchedR l).length = (cellsR l).length := by unfold watchedR; rw [List.length_map]
   have hget : ∀ i, i < (cellsR l).length → (watchedR l).getD i z62 = ⟨(cellsR l).getD i 0, (findR l ((cellsR l).getD i 0)).2.2.1⟩ := fun i hi => by
    unfold watchedR
    rw [List.getD_eq_getElem?_getD, List.getD_eq_getElem?_getD, List.getElem?_map, List.getElem?_eq_getElem hi]; rfl
   refine ⟨by rw [hlen, cellsR_len hr]; exact hP.1, fun i hi => ?_⟩
   rw [hlen] at hi
   have hmem := getD_in (cellsR l) 0 i hi
   obtain ⟨x, hx, ex⟩ := (cellsR_mem hr _).1 hmem
   have hok := (okR_eq x).1 (hP.2.1 x hx)
   have hv := find_val hr hx
   rw [ex] at hv
   have h63 := h x hx
   unfold okW
   rw [hget i hi]
   refine ⟨⟨by show 0 ≤ (cellsR l).getD i 0; rw [← ex]; exact hok.1, by show (cellsR l).getD i 0 < 64; rw [← ex]; omega⟩, by show inR (findR l ((cellsR l).getD i 0)).2.2.1 = true; rw [hv]; exact hok.2.2, fun h0 => ?_⟩
   rw [hget (i - 1) (by omega)]
   show (cellsR l).getD (i - 1) 0 < (cellsR l).getD i 0
   have := List.pairwise_iff_getElem.1 hup (i - 1) i (by omega) hi (by omega)
   rw [List.getD_eq_getElem?_getD, List.getD_eq_getElem?_getD, List.getElem?_eq_getElem (by omega), List.getElem?_eq_getElem hi]
   exact this
 · have h0 : watchedR l = [] := by unfold watchedR cellsR; rw [if_neg hr]; rfl
   rw [h0]
   exact ⟨by simp, fun i hi => by simp at hi⟩
theorem SReads_l (l : List Rd) (a1 : Int) (h1 : 0 ≤ a1 ∧ a1 ≤ 255) (hl : l.length ≤ 40) (d : Nat) : ∀ (k i : Nat), i ≤ l.length → l.length - i = d → d + 6000 < k →
 handshakerlaw15_SleepReads.l0 k l a1 (watchedR l) ((l.take i).any fun x => decide (x.f0 > 63)) l (l.length : Int) (i : Int) = some true := by
 induction d with
 | zero =>
  intro k i hi hd hk
  obtain ⟨k, rfl⟩ : ∃ m, k = m + 1 := ⟨k - 1, by omega⟩
  rw [List.take_of_length_le (by omega)]
  have hw : (watchedR l).length ≤ 40 := by
   have := cellsR_le l
   unfold watchedR
   rw [List.length_map]; omega
  have ew : Int.tmod a1 8 = a1 % 8 := Int.tmod_eq_emod_of_nonneg h1.1
  obtain ⟨r, e, hA, hcase⟩ := Add_f k [] ⟨1 + a1 % 8, 1, 0, watchedR l, []⟩ ⟨by simp, by simp⟩ hw (by omega)
  have hA' : sleep_Add.f k ([] : List Sp) (1 + a1 % 8) 1 0 (watchedR l) ([] : List S80) = some (r, e) := hA
  simp only [handshakerlaw15_SleepReads.l0]
  rw [if_neg (by omega), ew, wr (i := a1 % 8) (by omega) (by omega), wr (by omega) (by omega), hA', Option.bind_some, rWatched_f k l (by omega) (by omega), Option.bind_some, ListW_f k _ (by omega) (by omega), Option.bind_some, if_pos rfl]
  by_cases he : e = 0
  · rw [if_pos he, awake15 k (by omega)]; rfl
  · rw [if_neg he]
    have hhigh : (l.any fun x => decide (x.f0 > 63)) = true := by
     rw [← Bool.not_eq_false]
     intro hno
     rw [List.any_eq_false] at hno
     have hmay : maySp ⟨1 + a1 % 8, 1, 0, watchedR l, []⟩ = true := by
      unfold maySp
      rw [decide_eq_true (show 1 ≤ 1 + a1 % 8 ∧ 1 + a1 % 8 ≤ 8 by omega), watched_may (fun x hx => by have := hno x hx; simp at this; omega)]
      rfl
     rcases hcase with ⟨_, _, h⟩ | ⟨h, _⟩
     · obtain ⟨_, x, hx, _⟩ := h ⟨by simp, by simp⟩ hmay
       cases hx
     · exact he h
    rw [hhigh, if_pos rfl, awake15 k (by omega)]
    rfl
 | succ d ih =>
  intro k i hi hd hk
  obtain ⟨k, rfl⟩ : ∃ m, k = m + 1 := ⟨k - 1, by omega⟩
  have next := ih k (i + 1) (by omega) (by omega) (by omega)
  rw [take_snG l z57 i (by omega), List.any_append] at next
  simp only [handshakerlaw15_SleepReads.l0]
  rw [if_pos (by omega), if_pos (by omega), if_pos (by omega), wrN (by omega), show rd_T57 l (i : Int) = l.getD i z57 from rfl]
  by_cases h : ((l.take i).any fun x => decide (x.f0 > 63)) = true
  · rw [if_pos h]
    rw [h, Bool.true_or] at next
    exact next
  · rw [if_neg h]
    rw [Bool.eq_false_iff.2 h, Bool.false_or] at next
    simp only [List.any_cons, List.any_nil, Bool.or_false] at next
    exact next
theorem SleepReads : handshakerlaw15_SleepReads.Pure := by
 intro l0 a1 hl1 hl2 _ w1
 have h1 : 0 ≤ a1 ∧ a1 ≤ 255 := by simpa [Lit.wf, IntKind.bits, IntKind.signed, IntKind.min, IntKind.max] using w1
 refine ⟨6204, ?_⟩
 generalize hK : (6204 : Nat) = K
 unfold handshakerlaw15_SleepReads.f
 by_cases g : (l0.length : Int) > 40
 · rw [if_pos g, awake15 K (by omega)]; rfl
 · rw [if_neg g, Watched_f K l0 (by omega) (by omega), Option.bind_some]
   exact SReads_l l0 a1 h1 (by omega) l0.length K 0 (by omega) (by omega) (by omega)
end Go.Proofs.Ytjnkpocfmpbpoaa.Se
namespace Go.Proofs.Ytjnkpocfmpbpoaa.Pure
theorem SleepReads : Go.Proofs.Ytjnkpocfmpbpoaa.Se.handshakerlaw15_SleepReads.Pure := Go.Proofs.Ytjnkpocfmpbpoaa.Se.SleepReads
end Go.Proofs.Ytjnkpocfmpbpoaa.Pure
