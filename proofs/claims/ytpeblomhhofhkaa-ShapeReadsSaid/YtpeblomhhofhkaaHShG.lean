/-
  PROVED: The walks of shape's functions, by hand. Condition: what each lemma states.
-/
import Derived.Test.YtpeblomhhofhkaaHShF
namespace Go.Proofs.Ytpeblomhhofhkaa.H
open Go.RowKit Go.Proofs.YtpeblomhhofhkaaW.PrintWords Go.Proofs.YtpeblomhhofhkaaW.PrintLast Go.Proofs.YtpeblomhhofhkaaW.PrintMore Go.Proofs.Ytpeblomhhofhkaa.Ho
set_option linter.unusedVariables false
set_option linter.unusedSimpArgs false
theorem in_step (g : Nat) (A : Option Addr) (c : Nat) (bs : List Int) (w0 w : World) (hg : w0.heap.size ≤ g) (h : In g A c bs w0 w) (hb : byts bs) :
    Calls Try.prog 41 #[.pointer (some ⟨g, 0, none⟩)] w fun e w' => EndsS g w0 w (step_go bs) e w' := by
  rcases bs with _ | ⟨a, _ | ⟨b, _ | ⟨c_, _ | ⟨n, bs⟩⟩⟩⟩
  · exact in_step_short g A c _ w0 w hg h hb (by simp)
  · exact in_step_short g A c _ w0 w hg h hb (by simp)
  · exact in_step_short g A c _ w0 w hg h hb (by simp)
  · exact in_step_short g A c _ w0 w hg h hb (by simp)
  · exact in_step_long g A c a b c_ n bs w0 w hg h hb
theorem ops_mem : ∀ (m : Nat) (ts : List S50) (bs : List Int) (q : List S50 × List Int), ops_go m ts bs = some q → ∀ y ∈ q.2, y ∈ bs
  | 0, ts, bs, q, h, y, hy => by simp only [ops_go, Option.some.injEq] at h; rw [← h] at hy; exact hy
  | m + 1, ts, [], q, h, y, hy => by simp [ops_go] at h
  | m + 1, ts, k :: bs, q, h, y, hy => by
    simp only [ops_go] at h
    cases h4 : four_go 4 0 bs with
    | none => rw [h4] at h; simp at h
    | some p =>
      obtain ⟨n, r⟩ := p
      rw [h4] at h
      exact List.mem_cons_of_mem _ (four_mem 4 0 bs n r h4 y (ops_mem m _ r q h y hy))
theorem step_mem (bs : List Int) (s : S53) (r : List Int) (h : step_go bs = some (s, r)) : ∀ y ∈ r, y ∈ bs := by
  rcases bs with _ | ⟨a, _ | ⟨b, _ | ⟨c_, _ | ⟨n, bs⟩⟩⟩⟩
  · simp [step_go] at h
  · simp [step_go] at h
  · simp [step_go] at h
  · simp [step_go] at h
  · rw [step_ops] at h
    cases ho : ops_go n.toNat [] bs with
    | none => rw [ho] at h; simp at h
    | some q =>
      rw [ho] at h
      simp only [Option.map_some, Option.some.injEq, Prod.mk.injEq] at h
      intro y hy
      rw [← h.2] at hy
      simp [ops_mem _ _ _ q ho y hy]
def steps_go : Nat → List S53 → List Int → Option (List S53 × List Int)
  | 0, cs, bs => some (cs, bs)
  | m + 1, cs, bs => match step_go bs with
    | none => none
    | some (s, r) => steps_go m (cs ++ [s]) r
theorem steps_mem : ∀ (m : Nat) (cs : List S53) (bs : List Int) (q : List S53 × List Int), steps_go m cs bs = some q → ∀ y ∈ q.2, y ∈ bs
  | 0, cs, bs, q, h, y, hy => by simp only [steps_go, Option.some.injEq] at h; rw [← h] at hy; exact hy
  | m + 1, cs, bs, q, h, y, hy => by
    simp only [steps_go] at h
    cases h4 : step_go bs with
    | none => rw [h4] at h; simp at h
    | some p =>
      obtain ⟨s, r⟩ := p
      rw [h4] at h
      exact step_mem bs s r h4 y (steps_mem m _ r q h y hy)
def codes_go : Nat → List (List S53) → List Int → Option (List (List S53) × List Int)
  | 0, l, bs => some (l, bs)
  | _ + 1, _, [] => none
  | m + 1, l, k :: bs => match steps_go k.toNat [] bs with
    | none => none
    | some (c, r) => codes_go m (l ++ [c]) r
def all_go : List Int → Option (List (List S53) × List Int)
  | [] => none
  | n :: bs => codes_go n.toNat [] bs
/-- How the taking of all ends. -/
def EndsA (g : Nat) (w0 w : World) (R : Option (List (List S53) × List Int)) (e : Ending) (w' : World) : Prop :=
  match R with
  | none => e = .panicked shortE ∧ Below w0.heap.size w0 w' ∧ Took g w w'
  | some (l, bs) => ∃ v, e = .returned v ∧ Kd.R (Kd.slice 53 k53) 33 w' w.heap.size (fun k => k ≠ g) v l ∧ (∃ A' c', In g A' c' bs w0 w') ∧ Took g w w'
theorem info33h : (Try.prog.info? 33).map (fun i => (i.zero, i.size, i.bytes)) = some (some (.slice none 0 0), 1, 24) := by kernel_rfl
set_option maxHeartbeats 16000000 in
set_option maxRecDepth 100000 in
theorem in_codes (g : Nat) (A : Option Addr) (c : Nat) (bs : List Int) (w0 w : World) (hg : w0.heap.size ≤ g) (h : In g A c bs w0 w) (hb : byts bs) :
    Calls Try.prog 30 #[.pointer (some ⟨g, 0, none⟩)] w fun e w' => EndsA g w0 w (all_go bs) e w' := by
  have HI := ak h
  have hgw := blk_lt h.blk
  have hsz := h.below.size
  clear h
  obtain ⟨R, hR⟩ : ∃ R, R = all_go bs := ⟨_, rfl⟩
  rw [← hR]
  rcases bs with _ | ⟨n, bs⟩
  · go_enter Try.func30, Try.ntmps30
    go_wp2_with (go_at_call 40; refine (in_short g _ _ w0 _ HI.out).mono ?_; rintro e w2 ⟨rfl, h2, h3⟩)
    rw [hR]
    exact ⟨rfl, rfl, h2, h3⟩
  · have hn := hb n (by simp)
    have hbb : byts bs := fun y hy => hb y (by simp [hy])
    replace hR : R = codes_go n.toNat [] bs := hR
    go_enter Try.func30, Try.ntmps30
    go_wp2_with (go_at_call 40; refine (in_one g _ _ n _ w0 _ hg HI.out hn).mono ?_; rintro e w2 ⟨rfl, ⟨A2, c2, h2⟩, h3⟩; have HI2 := ak h2; have HT2 := ak h3; clear h2 h3)
    go_loopg [2, 6] (n.toNat + 1) (fun kq v2 v6 w' => ∃ (x : Int) (l : List (List S53)) (bs1 : List Int) (A1 : Option Addr) (c1 : Nat), v6 = .int .i64 x ∧ Aside0 (0 ≤ x ∧ (kq : Int) + x = n + 1 ∧ x ≤ n ∧ (l.length : Int) = x) ∧ Aside0 (R = codes_go (n - x).toNat l bs1 ∧ byts bs1) ∧ Aside0 (In g A1 c1 bs1 w0 w') ∧ Aside0 (Kd.R (Kd.slice 53 k53) 33 w' w.heap.size (fun k => k ≠ g) v2 l) ∧ Aside0 (Took g w w'))
    case atStart => exact ⟨0, [], bs, _, _, by first | rfl | (simp; done), ⟨by simp; omega⟩, ⟨by rw [hR]; simp, hbb⟩, HI2, ⟨Kd.R_nil _ _ _ _ _⟩, HT2⟩
    case round =>
      clear HI2 HT2 hR
      obtain ⟨x, l, bs1, A1, c1, rfl, hk, hR, HI, HV, HT⟩ := hrel
      have hx := hk.out
      obtain ⟨hR2, hb1⟩ := hR.out
      obtain ⟨k1, hk1⟩ : ∃ k1, gk = k1 + 1 := ⟨gk - 1, by omega⟩
      subst hk1
      obtain ⟨At, ct, et⟩ := Kd.R_slice HV.out
      subst et
      by_cases c0 : x < n
      · have c0_ : decide (x < n) = true := decide_eq_true c0
        rw [show (n - x).toNat = (n - (x + 1)).toNat + 1 by omega] at hR2
        rcases bs1 with _ | ⟨kk, bs2⟩
        · go_wp2_with (go_at_call 40; refine (in_short g _ _ w0 _ HI.out).mono ?_; rintro e w9 ⟨rfl, h2, h3⟩; have HT9 := ak (HT.out.trans h3))
          try rw [hR2]
          exact ⟨rfl, rfl, h2, HT9.out⟩
        · have hbk := hb1 kk (by simp)
          have hb2 : byts bs2 := fun y hy => hb1 y (by simp [hy])
          have hcod : codes_go ((n - (x + 1)).toNat + 1) l (kk :: bs2) = match steps_go kk.toNat [] bs2 with | none => none | some (cc, r) => codes_go (n - (x + 1)).toNat (l ++ [cc]) r := rfl
          rw [hcod] at hR2
          clear hcod
          obtain ⟨S, hS⟩ : ∃ S, S = steps_go kk.toNat [] bs2 := ⟨_, rfl⟩
          rw [← hS] at hR2
          go_wp2_with (go_at_call 40; refine (in_one g _ _ kk _ w0 _ hg HI.out hbk).mono ?_; rintro e w5 ⟨rfl, ⟨A5, c5, h2⟩, h3⟩; have HI5 := ak h2; have HT5 := ak (HT.out.trans h3); have HV5 := ak (h3.row HV.out); clear h2 h3)
          go_loopg [3, 10] (kk.toNat + 1) (fun kq v3 v10 w' => ∃ (y : Int) (cs : List S53) (bs3 : List Int) (A3 : Option Addr) (c3 : Nat), v10 = .int .i64 y ∧ Aside0 (0 ≤ y ∧ (kq : Int) + y = kk + 1 ∧ y ≤ kk ∧ (cs.length : Int) = y) ∧ Aside0 (S = steps_go (kk - y).toNat cs bs3 ∧ byts bs3) ∧ Aside0 (In g A3 c3 bs3 w0 w') ∧ Aside0 (Kd.R k53 53 w' w5.heap.size (fun k => k ≠ g) v3 cs) ∧ Aside0 (Took g w5 w'))
          case atStart => exact ⟨0, [], bs2, _, _, by first | rfl | (simp; done), ⟨by simp; omega⟩, ⟨by rw [hS]; simp, hb2⟩, HI5, ⟨Kd.R_nil _ _ _ _ _⟩, ⟨Took.refl _ _⟩⟩
          case round =>
            clear HI5 hS
            obtain ⟨y, cs, bs3, A3, c3, rfl, hk3, hS, HI, HC, HU⟩ := hrel
            have hy := hk3.out
            obtain ⟨hS2, hb3⟩ := hS.out
            obtain ⟨k2, hk2⟩ : ∃ k2, gk = k2 + 1 := ⟨gk - 1, by omega⟩
            subst hk2
            obtain ⟨Ac, cc, ec⟩ := Kd.R_slice HC.out
            subst ec
            by_cases c4 : y < kk
            · have c4_ : decide (y < kk) = true := decide_eq_true c4
              rw [show (kk - y).toNat = (kk - (y + 1)).toNat + 1 by omega] at hS2
              simp only [steps_go] at hS2
              cases h4 : step_go bs3 with
              | none =>
                rw [h4] at hS2
                subst hS2
                go_wp2_with (go_at_call 41; refine (in_step g _ _ bs3 w0 _ hg HI.out hb3).mono ?_; rintro e w9 hE; rw [h4] at hE; obtain ⟨rfl, h2, h3⟩ := hE; have HT9 := ak (HT5.out.trans (HU.out.trans h3)))
                try rw [hR2]
                exact ⟨rfl, rfl, h2, HT9.out⟩
              | some q =>
                obtain ⟨s, bs4⟩ := q
                rw [h4] at hS2
                replace hS2 : S = steps_go (kk - (y + 1)).toNat (cs ++ [s]) bs4 := hS2
                have hb4 : byts bs4 := fun z hz => hb3 z (step_mem bs3 s bs4 h4 z hz)
                have hs5 := Nat.le_trans hsz HT5.out.size
                go_wp2_with (first
                  | (go_at_call 41; refine (in_step g _ _ bs3 w0 _ hg HI.out hb3).mono ?_; rintro e w9 hE; rw [h4] at hE; obtain ⟨vs, rfl, hr9, ⟨A9, c9, h2⟩, h3⟩ := hE; have HI9 := ak h2; have HU9 := ak (HU.out.trans h3); have HC9 := ak (h3.row HC.out); obtain ⟨As, cs', es⟩ := Kd.R_slice hr9; subst es; have HS9 := ak hr9; clear h2 h3 hr9)
                  | ((with_reducible refine gate_builtin (b := .append) (xs := #[.tmp 12, .tmp 15]) rfl ?_); at_builtin; refine Kd.R_append k53 (w0 := w9) w5.heap.size rfl (.tmp 12) (.tmp 15) 33 53 (.agg #[(.int .i64 0), (.int .i64 0), (.int .i64 0), (.slice none 0 0)]) 48 rfl Try.underlying33 info53 rfl (by decide) (by omega) (.slice Ac cs.length cc) cs s [.int .i64 s.f0, .int .i64 s.f1, .int .i64 s.f2, .slice As s.f3.length cs'] (fun k => k ≠ g) (fun k => k ≠ g ∧ wr.heap.size ≤ k) rfl (by first | (go_simp; done) | (go_simp; rfl)) ?aP ?aK ?aF ?aO ?aB ?aS ?aL ?_; (case aP => exact k53_mkM _ _ _ s (Kd.R_lower (Kd.R_mono (Kd.R_bound HS9.out) (fun k hk => ⟨hk.1, hk.2.1⟩)) HU.out.size)); (case aK => exact (fun k hk => ⟨hk.1, fun e => by have := Kd.R_lt HC.out k e.symm; have := hk.2; omega⟩)); (case aB => exact Below.refl _ _); (case aF => exact (fun k hk e => by have := blk_lt HI9.out.blk; omega)); (case aO => exact HC9.out); (case aS => exact HU9.out.size); (case aL => omega); intro v10 w10 ho hb10 hg10 hat; have HI10 := ak (show In g A9 c9 bs4 w0 w10 from ⟨blk_grown HI9.out.blk hg10 (fun e => HC9.out.1 g e.symm rfl), HI9.out.row, HI9.out.cap, below_comp HI9.out.below (below_less hb10 hs5)⟩); have HU10 := ak (show Took g w5 w10 from ⟨Nat.le_trans HU9.out.size hg10.size, fun k hk hk2 => (hb10.block k hk).trans (HU9.out.heap k hk hk2)⟩); have HC10 := ak ho; clear ho hb10 hg10 hat))
                go_roundg k2
                case measure => omega
                case rel =>
                  refine ⟨y + 1, cs ++ [s], bs4, A9, c9, ?_, ⟨by rw [List.length_append, List.length_singleton]; omega⟩, ⟨by first | exact hS2 | rw [hS2] | rfl, hb4⟩, HI10, HC10, HU10⟩
                  first | rfl | rw [show wrap64 (y + 1) = y + 1 by unfold wrap64; omega]
            · have c4_ : decide (y < kk) = false := decide_eq_false c4
              rw [show (kk - y).toNat = 0 by omega] at hS2
              replace hS2 : S = some (cs, bs3) := hS2
              subst hS2
              replace hR2 : R = codes_go (n - (x + 1)).toNat (l ++ [cs]) bs3 := hR2
              have HVr := ak (HU.out.row HV5.out)
              have HTr := ak (HT5.out.trans HU.out)
              go_wp2_with ((with_reducible refine gate_builtin (b := .append) (xs := #[.tmp 18, .tmp 20]) rfl ?_); at_builtin; refine Kd.R_append (Kd.slice 53 k53) (w0 := wr) w.heap.size rfl (.tmp 18) (.tmp 20) 22 33 (.slice none 0 0) 24 rfl Try.underlying22 info33h rfl (by decide) (by omega) (.slice At l.length ct) l cs [.slice Ac cs.length cc] (fun k => k ≠ g) (fun k => k ≠ g ∧ w5.heap.size ≤ k) rfl (by first | (go_simp; done) | (go_simp; rfl) | rfl) ?aP ?aK ?aF ?aO ?aB ?aS ?aL ?_; (case aP => exact Kd.M_row (Kd.R_lower (Kd.R_mono (Kd.R_bound HC.out) (fun k hk => ⟨hk.1, hk.2.1⟩)) HT5.out.size)); (case aK => exact (fun k hk => ⟨hk.1, fun e => by have := Kd.R_lt HV5.out k e.symm; have := hk.2; omega⟩)); (case aB => exact Below.refl _ _); (case aF => exact (fun k hk e => by have := blk_lt HI.out.blk; omega)); (case aO => exact HVr.out); (case aS => exact HTr.out.size); (case aL => omega); intro v10 w10 ho hb10 hg10 hat; have HI10 := ak (show In g A3 c3 bs3 w0 w10 from ⟨blk_grown HI.out.blk hg10 (fun e => HVr.out.1 g e.symm rfl), HI.out.row, HI.out.cap, below_comp HI.out.below (below_less hb10 hsz)⟩); have HT10 := ak (show Took g w w10 from ⟨Nat.le_trans HTr.out.size hg10.size, fun k hk hk2 => (hb10.block k hk).trans (HTr.out.heap k hk hk2)⟩); have HV10 := ak ho; clear ho hb10 hg10 hat)
              go_roundg k1
              case measure => omega
              case rel =>
                refine ⟨x + 1, l ++ [cs], bs3, A3, c3, ?_, ⟨by rw [List.length_append, List.length_singleton]; omega⟩, ⟨by first | exact hR2 | rw [hR2] | rfl, hb3⟩, HI10, HV10, HT10⟩
                first | rfl | rw [show wrap64 (x + 1) = x + 1 by unfold wrap64; omega]
      · have c0_ : decide (x < n) = false := decide_eq_false c0
        go_wp2
        have e0 : (n - x).toNat = 0 := by omega
        try rw [hR2]
        rw [e0]
        go_ret
        exact ⟨_, rfl, HV.out, ⟨A1, c1, HI.out⟩, HT.out⟩
end Go.Proofs.Ytpeblomhhofhkaa.H
