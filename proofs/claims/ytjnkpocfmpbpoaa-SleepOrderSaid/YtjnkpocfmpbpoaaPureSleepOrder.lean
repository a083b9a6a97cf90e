/-
 PROVED: who lies down in any order, the list is one, by rising Whos, for every list and number. Condition: each argument is of its kind; nothing else.
-/
import Derived.Test.YtjnkpocfmpbpoaaSbLem5
import Derived.Test.YtjnkpocfmpbpoaaSbx14
namespace Go.Proofs.Ytjnkpocfmpbpoaa.Sb
open Go.RowKit Go.Proofs.YtjnkpocfmpbpoaaW.PrintWords Go.Proofs.YtjnkpocfmpbpoaaW.PrintLast Go.Proofs.YtjnkpocfmpbpoaaW.PrintMore Go.Proofs.Ytjnkpocfmpbpoaa.Ho
set_option linter.unusedVariables false
set_option linter.unusedSimpArgs false
/-! ### in any order one list -/
theorem turn_key (n b i : Nat) (hi : i < n) : (n - i + b) % n = if i ≤ b % n then b % n - i else n + b % n - i := by
 have hr := Nat.mod_lt b (show 0 < n by omega)
 rw [Nat.add_mod]
 generalize b % n = r at *
 by_cases h0 : i = 0
 · subst h0
   rw [if_pos (by omega), Nat.sub_zero, Nat.mod_self, Nat.zero_add, Nat.mod_eq_of_lt hr]; rfl
 · rw [Nat.mod_eq_of_lt (a := n - i) (by omega)]
   split
   · rw [show n - i + r = n + (r - i) by omega, Nat.add_mod_left, Nat.mod_eq_of_lt (by omega)]
   · rw [Nat.mod_eq_of_lt (by omega)]; omega
theorem turn_lt (n b i : Nat) (hi : i < n) : (n - i + b) % n < n := Nat.mod_lt _ (by omega)
theorem turn_inj (n b i j : Nat) (hi : i < n) (hj : j < n) (e : (n - i + b) % n = (n - j + b) % n) : i = j := by
 have hr := Nat.mod_lt b (show 0 < n by omega)
 rw [turn_key n b i hi, turn_key n b j hj] at e
 generalize b % n = r at *
 split at e <;> split at e <;> omega
theorem turn_sur (n b m : Nat) (hm : m < n) : ∃ i, i < n ∧ (n - i + b) % n = m := by
 have hr := Nat.mod_lt b (show 0 < n by omega)
 by_cases h : m ≤ b % n
 · refine ⟨b % n - m, by omega, ?_⟩
   rw [turn_key n b _ (by omega), if_pos (by omega)]; omega
 · refine ⟨n + b % n - m, by omega, ?_⟩
   rw [turn_key n b _ (by omega), if_neg (by omega)]; omega
theorem sorted_ext : ∀ (a b : List Sp), a.Pairwise Lt → b.Pairwise Lt → (∀ x, x ∈ a ↔ x ∈ b) → a = b
 | [], [], _, _, _ => rfl
 | [], y :: b, _, _, h => absurd ((h y).2 (by simp)) (by simp)
 | x :: a, [], _, _, h => absurd ((h x).1 (by simp)) (by simp)
 | x :: a, y :: b, ha, hb, h => by
  rw [List.pairwise_cons] at ha hb
  have hxy : x = y := by
   have h1 := (h x).1 (by simp)
   have h2 := (h y).2 (by simp)
   rcases List.mem_cons.1 h1 with e | e
   · exact e
   · rcases List.mem_cons.1 h2 with e' | e'
     · exact e'.symm
     · have p : x.f0 < y.f0 := ha.1 y e'
       have q : y.f0 < x.f0 := hb.1 x e
       omega
  subst hxy
  have hx : ∀ (l : List Sp), (∀ z ∈ l, Lt x z) → x ∉ l := fun l hl hm => by
   have : x.f0 < x.f0 := hl x hm
   omega
  rw [sorted_ext a b ha.2 hb.2 fun z => ?_]
  constructor
  · intro hz
    rcases List.mem_cons.1 ((h z).1 (List.mem_cons_of_mem _ hz)) with e | e
    · exact absurd (e ▸ hz) (hx a ha.1)
    · exact e
  · intro hz
    rcases List.mem_cons.1 ((h z).2 (List.mem_cons_of_mem _ hz)) with e | e
    · exact absurd (e ▸ hz) (hx b hb.1)
    · exact e
/-- All that are named, each once, go. -/
theorem dropL_all (l : List Sp) : ∀ (ws : List Int) (x : List Sp), ws.Nodup → (∀ w ∈ ws, ∃ s ∈ x, s.f0 = w) → dropL l x ws = (x.filter (fun s => !(ws.contains s.f0)), 0)
 | [], x, _, _ => by
  simp only [dropL]
  congr 1
  symm
  rw [List.filter_eq_self]
  intro s _; simp
 | w :: ws, x, hn, h => by
  rw [List.nodup_cons] at hn
  simp only [dropL]
  obtain ⟨s, hs, es⟩ := h w (by simp)
  rw [if_pos (List.any_eq_true.2 ⟨s, hs, by simpa using es⟩), dropL_all l ws _ hn.2 fun v hv => ?_]
  · congr 1
    rw [List.filter_filter]
    congr 1
    funext y
    rw [List.contains_cons, Bool.not_or, Bool.and_comm]
    rfl
  · obtain ⟨t, ht, et⟩ := h v (List.mem_cons_of_mem _ hv)
    refine ⟨t, List.mem_filter.2 ⟨ht, ?_⟩, et⟩
    have : t.f0 ≠ w := fun e => hn.1 (by rw [← e, et]; exact hv)
    simpa using this
theorem Order_l (l : List Sp) (b : Nat) (hb : b ≤ 255) (hF : FewS l) (hR : RS l) (hn : 0 < l.length) (d : Nat) : ∀ (k i : Nat) (out : List Sp), i ≤ l.length → l.length - i = d → d + 3000 < k → RS out → out.length = i →
 (∀ x, x ∈ out ↔ ∃ j, j < i ∧ l.getD ((l.length - j + b) % l.length) z26 = x) →
 handshakerlaw15_SleepOrder.l0 k l (b : Int) out ((List.range i).map fun j => (l.getD ((l.length - j + b) % l.length) z26).f0) (l.length : Int) (i : Int) = some true := by
 have hlen := hF.1
 have inj : ∀ i j, i < l.length → j < l.length → (l.getD ((l.length - i + b) % l.length) z26).f0 = (l.getD ((l.length - j + b) % l.length) z26).f0 → i = j := fun i j hi hj e => by
  have h1 := turn_lt l.length b i hi
  have h2 := turn_lt l.length b j hj
  refine turn_inj l.length b i j hi hj ?_
  rcases Nat.lt_trichotomy ((l.length - i + b) % l.length) ((l.length - j + b) % l.length) with q | q | q
  · have := lt_at hR.2 _ _ q h2; omega
  · exact q
  · have := lt_at hR.2 _ _ q h1; omega
 induction d with
 | zero =>
  intro k i out hi hd hk hO hlo hm
  obtain ⟨k, rfl⟩ : ∃ q, k = q + 1 := ⟨k - 1, by omega⟩
  obtain rfl : i = l.length := by omega
  have heq : out = l := sorted_ext out l hO.2 hR.2 fun x => by
   rw [hm]
   constructor
   · rintro ⟨j, hj, rfl⟩
     exact getD_in l _ _ (turn_lt l.length b j hj)
   · intro hx
     obtain ⟨m, hm', rfl⟩ := mem_idx hx
     obtain ⟨j, hj, e⟩ := turn_sur l.length b m hm'
     exact ⟨j, hj, by rw [e]⟩
  subst heq
  have hdr := Drop_f k out hF hR ((List.range out.length).map fun j => (out.getD ((out.length - j + b) % out.length) z26).f0) (by rw [List.length_map, List.length_range]; omega) (by omega)
  rw [dropL_all out _ out (by
   rw [List.Nodup, List.pairwise_map]
   refine List.Pairwise.imp_of_mem (R := fun a b => a < b) ?_ List.pairwise_lt_range
   intro a c ha hc hlt e
   have := inj a c (List.mem_range.1 ha) (List.mem_range.1 hc) e
   omega) (fun w hw => by
   obtain ⟨j, hj, rfl⟩ := List.mem_map.1 hw
   exact ⟨_, getD_in out _ _ (turn_lt out.length b j (List.mem_range.1 hj)), rfl⟩)] at hdr
  have hnil : (out.filter fun s => !(((List.range out.length).map fun j => (out.getD ((out.length - j + b) % out.length) z26).f0).contains s.f0)) = [] := by
   rw [List.filter_eq_nil_iff]
   intro s hs
   obtain ⟨j, hj, e⟩ := (hm s).1 hs
   rw [Bool.not_eq_true, Bool.not_eq_false', List.contains_iff_mem]
   exact List.mem_map.2 ⟨j, List.mem_range.2 hj, by rw [e]⟩
  rw [hnil] at hdr
  simp only [handshakerlaw15_SleepOrder.l0]
  rw [if_neg (by omega), hdr, Option.bind_some, RefsF_f k out hF (by omega), Option.bind_some, Option.bind_some, SameS_f k out hF (by omega), Option.bind_some, if_pos rfl, if_pos rfl, if_pos (show ((([] : List Sp).length : Nat) : Int) = 0 from rfl), awake15 k (by omega)]
  rfl
 | succ d ih =>
  intro k i out hi hd hk hO hlo hm
  obtain ⟨k, rfl⟩ : ∃ q, k = q + 1 := ⟨k - 1, by omega⟩
  have hlt := turn_lt l.length b i (by omega)
  have et : Int.tmod (wrap64 ((wrap64 ((l.length : Int) - i)) + (wrap64 (b : Int)))) (l.length : Int) = (((l.length - i + b) % l.length : Nat) : Int) := by
   rw [wr (i := (l.length : Int) - i) (by omega) (by omega), wr (i := (b : Int)) (by omega) (by omega), wr (by omega) (by omega), show (l.length : Int) - i + b = ((l.length - i + b : Nat) : Int) by omega, Int.tmod_eq_emod_of_nonneg (by omega)]
   rfl
  have hFo : FewS out := ⟨by omega, fun x hx => by
   obtain ⟨j, hj, e⟩ := (hm x).1 hx
   rw [← e]
   exact hF.2 _ (getD_in l _ _ (turn_lt l.length b j (by omega)))⟩
  have hmem := getD_in l z26 _ hlt
  have hs := hF.2 _ hmem
  obtain ⟨r, e, hA, hcase⟩ := Add_f k out (l.getD ((l.length - i + b) % l.length) z26) hFo hs.1 (by omega)
  have hno : ∀ x ∈ out, x.f0 ≠ (l.getD ((l.length - i + b) % l.length) z26).f0 := fun x hx ex => by
   obtain ⟨j, hj, ej⟩ := (hm x).1 hx
   rw [← ej] at ex
   have := inj j i (by omega) (by omega) ex
   omega
  simp only [handshakerlaw15_SleepOrder.l0]
  rw [if_pos (by omega), if_neg (by omega), et, if_pos (by omega), if_pos (by omega), show rd_T26 l (((l.length - i + b) % l.length : Nat) : Int) = l.getD ((l.length - i + b) % l.length) z26 from rfl, hA, Option.bind_some, wrN (by omega)]
  rcases hcase with ⟨he, _, h9⟩ | ⟨he, _, hM, _, c, hCut, hr⟩
  · obtain ⟨_, x, hx, ex⟩ := h9 hO (hR.1 _ hmem)
    exact absurd ex (hno x hx)
  · rw [if_pos he, if_pos (by rw [List.length_map, List.length_range]; omega)]
    have next := ih k (i + 1) r (by omega) (by omega) (by omega) (by rw [hr]; exact ins_right hO hM hCut hno) (by
     have := hCut.1
     rw [hr]; simp; omega) (fun x => by
     rw [hr, List.mem_append, List.mem_append, List.mem_singleton]
     have hin : x ∈ out ↔ x ∈ out.take c ∨ x ∈ out.drop c := by rw [← List.mem_append, List.take_append_drop]
     constructor
     · intro h
       by_cases hx : x ∈ out
       · obtain ⟨j, hj, ej⟩ := (hm x).1 hx
         exact ⟨j, by omega, ej⟩
       · rcases h with (h | h) | h
         · exact absurd (hin.2 (.inl h)) hx
         · exact ⟨i, by omega, h.symm⟩
         · exact absurd (hin.2 (.inr h)) hx
     · rintro ⟨j, hj, ej⟩
       by_cases e : j = i
       · subst e; exact .inl (.inr ej.symm)
       · rcases hin.1 ((hm x).2 ⟨j, by omega, ej⟩) with h | h
         · exact .inl (.inl h)
         · exact .inr h)
    rw [List.range_succ, List.map_append] at next
    exact next
theorem SleepOrder : handshakerlaw15_SleepOrder.Pure := by
 intro l0 a1 hl1 hl2 _ w1
 have h1 : 0 ≤ a1 ∧ a1 ≤ 255 := by simpa [Lit.wf, IntKind.bits, IntKind.signed, IntKind.min, IntKind.max] using w1
 obtain ⟨b, rfl⟩ := Int.eq_ofNat_of_zero_le h1.1
 refine ⟨l0.length + 5004, ?_⟩
 generalize hK : l0.length + 5004 = K
 unfold handshakerlaw15_SleepOrder.f
 obtain ⟨s, hs, hs'⟩ := Small15_f K l0 (by omega) (by omega)
 rw [hs, Option.bind_some]
 obtain ⟨K, rfl⟩ : ∃ m, K = m + 1 := ⟨K - 1, by omega⟩
 have aw : handshakerlaw15_SleepOrder.j0 (K + 1) l0 (b : Int) true = some true := by
  simp only [handshakerlaw15_SleepOrder.j0]
  rw [if_pos trivial, awake15 K (by omega)]; rfl
 by_cases g : s < 0
 · rw [if_pos g]; exact aw
 rw [if_neg g]
 have q1 := (hs'.resolve_left g).2
 have hF : FewS l0 := ⟨by omega, q1.2⟩
 rw [RightF_f _ l0 hF (by omega), Option.bind_some]
 by_cases hr : rightS l0 = true
 · rw [if_pos hr]
   have hR := (rightS_iff l0).1 hr
   by_cases h0 : l0.length = 0
   · rw [show ((l0.length : Int) == 0) = true by simp [h0]]; exact aw
   · rw [show ((l0.length : Int) == 0) = false by simp; exact fun e => h0 (by rw [e]; rfl)]
     simp only [handshakerlaw15_SleepOrder.j0]
     rw [if_neg (by decide)]
     exact Order_l l0 b (by omega) hF hR (by omega) l0.length K 0 [] (by omega) (by omega) (by omega) ⟨by simp, by simp⟩ rfl (by simp)
 · rw [if_neg hr]; exact aw
end Go.Proofs.Ytjnkpocfmpbpoaa.Sb
namespace Go.Proofs.Ytjnkpocfmpbpoaa.Pure
theorem SleepOrder : Go.Proofs.Ytjnkpocfmpbpoaa.Sb.handshakerlaw15_SleepOrder.Pure := Go.Proofs.Ytjnkpocfmpbpoaa.Sb.SleepOrder
end Go.Proofs.Ytjnkpocfmpbpoaa.Pure
