/-
  PROVED: The walks of shape's functions, by hand. Condition: what each lemma states.
-/
import Derived.Test.YtpeblomhhofhkaaHShC
import Derived.Recover
import Derived.WalkLawsBesides
import Derived.Defers
import Derived.Test.YtpeblomhhofhkaaHx7
namespace Go.Proofs.Ytpeblomhhofhkaa.H
open Go.RowKit Go.Proofs.YtpeblomhhofhkaaW.PrintWords Go.Proofs.YtpeblomhhofhkaaW.PrintLast Go.Proofs.YtpeblomhhofhkaaW.PrintMore Go.Proofs.Ytpeblomhhofhkaa.Ho
set_option linter.unusedVariables false
set_option linter.unusedSimpArgs false
/-- Bytes that are taken, by the variable at g. -/
structure In (g : Nat) (A : Option Addr) (c : Nat) (bs : List Int) (w0 w : World) : Prop where
  blk : w.heap[g]? = some (.cells #[.slice A bs.length c] 72 (0, 0))
  row : Kd.C (Kd.int .u8) w0 A bs.length bs
  cap : bs.length ≤ c
  below : Below w0.heap.size w0 w
/-- What taking bytes leaves as it was. -/
structure Took (g : Nat) (w w' : World) : Prop where
  size : w.heap.size ≤ w'.heap.size
  heap : ∀ k, k < w.heap.size → k ≠ g → w'.heap[k]? = w.heap[k]?
theorem Took.refl (g : Nat) (w : World) : Took g w w := ⟨Nat.le_refl _, fun _ _ _ => rfl⟩
theorem Took.trans {g : Nat} {w w1 w2 : World} (a : Took g w w1) (b : Took g w1 w2) : Took g w w2 :=
  ⟨Nat.le_trans a.size b.size, fun k hk hg => (b.heap k (Nat.lt_of_lt_of_le hk a.size) hg).trans (a.heap k hk hg)⟩
theorem Took.on {g : Nat} {w w1 w2 : World} (a : Took g w w1) (hb : Below w1.heap.size w1 w2) : Took g w w2 :=
  ⟨Nat.le_trans a.size hb.size, fun k hk hg => (hb.block k (Nat.lt_of_lt_of_le hk a.size)).trans (a.heap k hk hg)⟩
theorem Took.of {g : Nat} {w w1 : World} (hb : Below w.heap.size w w1) : Took g w w1 := (Took.refl g w).on hb
theorem In.on {g : Nat} {A : Option Addr} {c : Nat} {bs : List Int} {w0 w w' : World} (h : In g A c bs w0 w) (hb : Below w.heap.size w w') : In g A c bs w0 w' :=
  ⟨blk_below h.blk hb, h.row, h.cap, below_step h.below hb⟩
abbrev shortE : List PanicEntry := [{ v := .iface 69 (.agg #[]), recovered := false }]
set_option maxHeartbeats 8000000 in
set_option maxRecDepth 100000 in
theorem in_short (g : Nat) (A : Option Addr) (c : Nat) (w0 w : World) (h : In g A c [] w0 w) :
    Calls Try.prog 40 #[.pointer (some ⟨g, 0, none⟩)] w fun e w' => e = .panicked shortE ∧ Below w0.heap.size w0 w' ∧ Took g w w' := by
  obtain ⟨hz0, hf0⟩ := bz1_ (ak h.blk)
  go_enter Try.func40, Try.ntmps40
  go_wp2
  exact ⟨rfl, rfl, h.below, Took.refl _ _⟩
set_option maxHeartbeats 8000000 in
set_option maxRecDepth 100000 in
theorem in_one (g : Nat) (A : Option Addr) (c : Nat) (x : Int) (bs : List Int) (w0 w : World) (hg : w0.heap.size ≤ g) (h : In g A c (x :: bs) w0 w) (hx : 0 ≤ x ∧ x ≤ 255) :
    Calls Try.prog 40 #[.pointer (some ⟨g, 0, none⟩)] w fun e w' => e = .returned (.int .i64 x) ∧ (∃ A' c', In g A' c' bs w0 w') ∧ Took g w w' := by
  obtain ⟨hz0, hf0⟩ := bz1_ (ak h.blk)
  obtain ⟨ad, e0, hx0⟩ := Kd.at_int h.row 0 (by omega) (by rw [List.length_cons]; omega)
  cases e0
  replace hx0 := bl_ ⟨h.below⟩ hx0
  replace hx0 : w.cell? ad = some (.int .u8 x) := by simpa [Addr.add, rd] using hx0
  have hl0 : ((bs.length : Int) + 1 == 0) = false := by rw [beq_eq_false_iff_ne]; omega
  have hrow := Kd.C_drop (c := c) (m := 1) h.row (by rw [List.length_cons]; omega) h.cap
  have hcap := h.cap
  have hbe := h.below
  have hblk := h.blk
  clear h
  rw [List.length_cons] at hcap
  go_enter Try.func40, Try.ntmps40
  go_wp2
  all_goals first
    | (rw [if_pos ‹c = 1›] at hrow; subst h; go_ret; exact ⟨rfl, ⟨_, _, blk_put hblk 0 _ rfl, hrow, by omega, below_set hbe hg⟩, Nat.le_of_eq (World.size_setCell ..).symm, fun k _ hk => Below.heap_setCell _ _ _ k hk⟩)
    | (rw [if_neg ‹¬c = 1›] at hrow; go_ret; exact ⟨rfl, ⟨_, _, blk_put hblk 0 _ rfl, hrow, by show bs.length ≤ c - 1; omega, below_set hbe hg⟩, Nat.le_of_eq (World.size_setCell ..).symm, fun k _ hk => Below.heap_setCell _ _ _ k hk⟩)
theorem or8 (n b : Int) (h0 : 0 ≤ n) (h1 : n < 16777216) (h2 : 0 ≤ b) (h3 : b ≤ 255) : bits .or .i64 (wrap64 (n * 256)) b = n * 256 + b := by
  rw [show wrap64 (n * 256) = n * 256 by unfold wrap64; omega]
  exact bits_join .i64 40 (by decide) (fun m hm hm1 => by simp only [IntKind.wrap_i64] <;> omega) 8 (n * 256) b (by omega) (by omega) (by omega) h2 (by omega) (by omega)
def four_go : Nat → Int → List Int → Option (Int × List Int)
  | 0, n, bs => some (n, bs)
  | _ + 1, _, [] => none
  | m + 1, n, b :: bs => four_go m (n * 256 + b) bs
/-- How the taking of a number ends. -/
def Ends (g : Nat) (w0 w : World) (R : Option (Int × List Int)) (f : Int → Int) (e : Ending) (w' : World) : Prop :=
  match R with
  | none => e = .panicked shortE ∧ Below w0.heap.size w0 w' ∧ Took g w w'
  | some (n, bs) => e = .returned (.int .i64 (f n)) ∧ (∃ A' c', In g A' c' bs w0 w') ∧ Took g w w'
abbrev byts (bs : List Int) : Prop := ∀ b ∈ bs, 0 ≤ b ∧ b ≤ 255
def wrapN (n : Int) : Int := wrap64 (wrap32 ((IntKind.u64.wrap n) % 4294967296))
set_option maxHeartbeats 8000000 in
set_option maxRecDepth 100000 in
theorem in_four (g : Nat) (A : Option Addr) (c : Nat) (bs : List Int) (w0 w : World) (hg : w0.heap.size ≤ g) (h : In g A c bs w0 w) (hb : byts bs) :
    Calls Try.prog 49 #[.pointer (some ⟨g, 0, none⟩)] w fun e w' => Ends g w0 w (four_go 4 0 bs) wrapN e w' := by
  obtain ⟨R, hR⟩ : ∃ R, R = four_go 4 0 bs := ⟨_, rfl⟩
  rw [← hR]
  have HI := ak h
  clear h
  go_enter Try.func49, Try.ntmps49
  go_wp2
  go_loopg [3, 4] 5 (fun kq v3 v4 w' => ∃ (x n : Int) (bs1 : List Int) (A : Option Addr) (c : Nat), v3 = .int .i64 n ∧ v4 = .int .i64 x ∧ Aside0 (0 ≤ x ∧ (kq : Int) + x = 5 ∧ x ≤ 4) ∧ Aside0 (R = four_go (4 - x.toNat) n bs1 ∧ byts bs1 ∧ 0 ≤ n ∧ (x = 0 → n < 1) ∧ (x = 1 → n < 256) ∧ (x = 2 → n < 65536) ∧ (x = 3 → n < 16777216)) ∧ Aside0 (In g A c bs1 w0 w') ∧ Aside0 (Took g w w'))
  case atStart => exact ⟨0, 0, bs, A, c, rfl, rfl, ⟨by decide⟩, ⟨hR, hb, by decide, by omega⟩, HI, ⟨Took.refl _ _⟩⟩
  case round =>
    clear HI hR
    obtain ⟨x, n, bs1, A, c, rfl, rfl, hk, hR, HI, HT⟩ := hrel
    have hx := hk.out
    obtain ⟨hR2, hb1, hn0, hn1⟩ := hR.out
    rcases (show x = 0 ∨ x = 1 ∨ x = 2 ∨ x = 3 ∨ x = 4 by omega) with rfl | rfl | rfl | rfl | rfl
    · have hn3 : n < 1 := by simpa using hn1
      cases bs1 with
      | nil =>
        go_wp2_with (go_at_call 40; refine (in_short g A c w0 wr HI.out).mono ?_; rintro e w2 ⟨rfl, h2, h3⟩)
        rw [hR2]
        exact ⟨rfl, rfl, h2, HT.out.trans h3⟩
      | cons b bs2 =>
        have hb0 := hb1 b (by simp)
        have ho := or8 n b hn0 (by omega) hb0.1 hb0.2
        have ho2 := ho
        rw [show wrap64 (n * 256) = n * 256 by unfold wrap64; omega] at ho2
        go_wp2_with (go_at_call 40; refine (in_one g A c b bs2 w0 wr hg HI.out hb0).mono ?_; rintro e w2 ⟨rfl, ⟨A2, c2, h2⟩, h3⟩)
        go_roundg 4
        case measure => omega
        case rel => exact ⟨1, n * 256 + b, bs2, A2, c2, by first | rfl | rw [ho] | rw [ho2], rfl, ⟨by decide⟩, ⟨hR2, fun y hy => hb1 y (by simp [hy]), by omega, by omega⟩, ⟨h2⟩, ⟨HT.out.trans h3⟩⟩
    · have hn3 : n < 256 := by simpa using hn1
      cases bs1 with
      | nil =>
        go_wp2_with (go_at_call 40; refine (in_short g A c w0 wr HI.out).mono ?_; rintro e w2 ⟨rfl, h2, h3⟩)
        rw [hR2]
        exact ⟨rfl, rfl, h2, HT.out.trans h3⟩
      | cons b bs2 =>
        have hb0 := hb1 b (by simp)
        have ho := or8 n b hn0 (by omega) hb0.1 hb0.2
        have ho2 := ho
        rw [show wrap64 (n * 256) = n * 256 by unfold wrap64; omega] at ho2
        go_wp2_with (go_at_call 40; refine (in_one g A c b bs2 w0 wr hg HI.out hb0).mono ?_; rintro e w2 ⟨rfl, ⟨A2, c2, h2⟩, h3⟩)
        go_roundg 3
        case measure => omega
        case rel => exact ⟨2, n * 256 + b, bs2, A2, c2, by first | rfl | rw [ho] | rw [ho2], rfl, ⟨by decide⟩, ⟨hR2, fun y hy => hb1 y (by simp [hy]), by omega, by omega⟩, ⟨h2⟩, ⟨HT.out.trans h3⟩⟩
    · have hn3 : n < 65536 := by simpa using hn1
      cases bs1 with
      | nil =>
        go_wp2_with (go_at_call 40; refine (in_short g A c w0 wr HI.out).mono ?_; rintro e w2 ⟨rfl, h2, h3⟩)
        rw [hR2]
        exact ⟨rfl, rfl, h2, HT.out.trans h3⟩
      | cons b bs2 =>
        have hb0 := hb1 b (by simp)
        have ho := or8 n b hn0 (by omega) hb0.1 hb0.2
        have ho2 := ho
        rw [show wrap64 (n * 256) = n * 256 by unfold wrap64; omega] at ho2
        go_wp2_with (go_at_call 40; refine (in_one g A c b bs2 w0 wr hg HI.out hb0).mono ?_; rintro e w2 ⟨rfl, ⟨A2, c2, h2⟩, h3⟩)
        go_roundg 2
        case measure => omega
        case rel => exact ⟨3, n * 256 + b, bs2, A2, c2, by first | rfl | rw [ho] | rw [ho2], rfl, ⟨by decide⟩, ⟨hR2, fun y hy => hb1 y (by simp [hy]), by omega, by omega⟩, ⟨h2⟩, ⟨HT.out.trans h3⟩⟩
    · have hn3 : n < 16777216 := by simpa using hn1
      cases bs1 with
      | nil =>
        go_wp2_with (go_at_call 40; refine (in_short g A c w0 wr HI.out).mono ?_; rintro e w2 ⟨rfl, h2, h3⟩)
        rw [hR2]
        exact ⟨rfl, rfl, h2, HT.out.trans h3⟩
      | cons b bs2 =>
        have hb0 := hb1 b (by simp)
        have ho := or8 n b hn0 (by omega) hb0.1 hb0.2
        have ho2 := ho
        rw [show wrap64 (n * 256) = n * 256 by unfold wrap64; omega] at ho2
        go_wp2_with (go_at_call 40; refine (in_one g A c b bs2 w0 wr hg HI.out hb0).mono ?_; rintro e w2 ⟨rfl, ⟨A2, c2, h2⟩, h3⟩)
        go_roundg 1
        case measure => omega
        case rel => exact ⟨4, n * 256 + b, bs2, A2, c2, by first | rfl | rw [ho] | rw [ho2], rfl, ⟨by decide⟩, ⟨hR2, fun y hy => hb1 y (by simp [hy]), by omega, by omega⟩, ⟨h2⟩, ⟨HT.out.trans h3⟩⟩
    · go_wp2_with ((with_reducible refine gate_callee (f := 54) rfl ?_); refine goesL_ (some 13) rfl rfl Try.func54 (by kernel_rfl) rfl #[.int .i64 n] rfl mp_ ?_; refine (span_Wrap.calls n _ _ rfl).mono ?_; rintro e w2 ⟨rfl, hd⟩; refine ⟨_, rfl, ?_⟩; have HB2 := ak (Drawn0.below hd))
      go_ret
      rw [hR2]
      exact ⟨rfl, ⟨A, c, HI.out.on HB2.out⟩, HT.out.on HB2.out⟩
end Go.Proofs.Ytpeblomhhofhkaa.H
