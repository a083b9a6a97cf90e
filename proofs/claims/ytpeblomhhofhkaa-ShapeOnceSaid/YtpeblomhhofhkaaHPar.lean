/-
 PROVED: Plain lemmas on numbers and lists, of what the printed functions answer. No condition beside those of each lemma.
-/
import Derived.Test.YtpeblomhhofhkaaHSha
namespace Go.Proofs.Ytpeblomhhofhkaa.H
open Go.RowKit Go.Proofs.YtpeblomhhofhkaaW.PrintWords Go.Proofs.YtpeblomhhofhkaaW.PrintLast Go.Proofs.YtpeblomhhofhkaaW.PrintMore Go.Proofs.Ytpeblomhhofhkaa.Ho
set_option linter.unusedVariables false
set_option linter.unusedSimpArgs false
/-! ### what is written is read -/
theorem str_inj : ∀ {a b : List Int}, byts a → byts b → (strOfNums a).toList = (strOfNums b).toList → a = b := by
 intro a b ha hb h
 rw [ByteArray.toList_eq, ByteArray.toList_eq, strOfNums_data, strOfNums_data] at h
 induction a generalizing b with
 | nil => cases b with
  | nil => rfl
  | cons y b => simp at h
 | cons x a ih => cases b with
  | nil => simp at h
  | cons y b =>
   simp only [List.map_cons, List.cons.injEq] at h
   have hx := ha x (by simp)
   have hy := hb y (by simp)
   rw [ih (fun z hz => ha z (by simp [hz])) (fun z hz => hb z (by simp [hz])) h.2]
   congr 1
   have e := congrArg UInt8.toNat h.1
   simp only [UInt8.toNat_ofNat'] at e
   omega
theorem str_app (a b : List Int) : strOfNums a ++ strOfNums b = strOfNums (a ++ b) := by
 apply ByteArray.ext
 simp [strOfNums]
theorem wrapN_eq (n : Int) : wrapN n = wrap32 n := Option.some.inj (show some (wrapN n) = some (wrap32 n) from wrap_f n)
abbrev i32R (n : Int) : Prop := -2147483648 ≤ n ∧ n ≤ 2147483647
abbrev by8 (n : Int) : Prop := 0 ≤ n ∧ n ≤ 255
abbrev fineO (o : TOp) : Prop := by8 o.f0 ∧ i32R o.f1
abbrev fineS (s : Stp) : Prop := by8 s.f0 ∧ by8 s.f1 ∧ by8 s.f2 ∧ s.f3.length ≤ 255 ∧ ∀ o ∈ s.f3, fineO o
abbrev fineC (c : List Stp) : Prop := c.length ≤ 255 ∧ ∀ s ∈ c, fineS s
theorem four_read (n : Int) (r : List Int) (h : i32R n) : ∃ m, four_go 4 0 (b4 n ++ r) = some (m, r) ∧ wrapN m = n := by
 refine ⟨_, rfl, ?_⟩
 rw [wrapN_eq]
 unfold wrap32
 omega
theorem four_back (bs : List Int) (hb : byts bs) (n : Int) (r : List Int) (h : four_go 4 0 bs = some (n, r)) : bs = b4 (wrapN n) ++ r ∧ i32R (wrapN n) := by
 rcases bs with _ | ⟨b0, _ | ⟨b1, _ | ⟨b2, _ | ⟨b3, bs⟩⟩⟩⟩
 · simp [four_go] at h
 · simp [four_go] at h
 · simp [four_go] at h
 · simp [four_go] at h
 · have h0 := hb b0 (by simp)
   have h1 := hb b1 (by simp)
   have h2 := hb b2 (by simp)
   have h3 := hb b3 (by simp)
   simp only [four_go, Option.some.injEq, Prod.mk.injEq] at h
   obtain ⟨hn, rfl⟩ := h
   rw [wrapN_eq]
   refine ⟨?_, by unfold wrap32; omega⟩
   unfold b4
   have e0 : (wrap32 n / 16777216) % 256 = b0 := by unfold wrap32; omega
   have e1 : (wrap32 n / 65536) % 256 = b1 := by unfold wrap32; omega
   have e2 : (wrap32 n / 256) % 256 = b2 := by unfold wrap32; omega
   have e3 : wrap32 n % 256 = b3 := by unfold wrap32; omega
   rw [e0, e1, e2, e3]; rfl
theorem ops_read : ∀ (us : List TOp) (ts : List TOp) (r : List Int), (∀ o ∈ us, fineO o) → ops_go us.length ts (us.flatMap opB ++ r) = some (ts ++ us, r)
 | [], ts, r, _ => by simp [ops_go]
 | o :: us, ts, r, h => by
  have ho := h o (by simp)
  rw [List.flatMap_cons, List.append_assoc]
  show ops_go (us.length + 1) ts (o.f0 % 256 :: (b4 o.f1 ++ (us.flatMap opB ++ r))) = _
  obtain ⟨m, e, em⟩ := four_read o.f1 (us.flatMap opB ++ r) ho.2
  simp only [ops_go]
  rw [e]
  show ops_go us.length (ts ++ [⟨o.f0 % 256, wrapN m⟩]) (us.flatMap opB ++ r) = _
  rw [em, show o.f0 % 256 = o.f0 by have := ho.1; omega, ops_read us _ r (fun x hx => h x (by simp [hx]))]
  simp
theorem ops_back : ∀ (m : Nat) (ts : List TOp) (bs : List Int) (q : List TOp × List Int), byts bs → ops_go m ts bs = some q → ∃ us, q.1 = ts ++ us ∧ us.length = m ∧ bs = us.flatMap opB ++ q.2 ∧ ∀ o ∈ us, fineO o
 | 0, ts, bs, q, _, h => by
  simp only [ops_go, Option.some.injEq] at h
  subst h
  exact ⟨[], by simp, rfl, by simp, fun o ho => absurd ho (by simp)⟩
 | m + 1, ts, [], q, _, h => by simp [ops_go] at h
 | m + 1, ts, k :: bs, q, hb, h => by
  simp only [ops_go] at h
  cases h4 : four_go 4 0 bs with
  | none => rw [h4] at h; simp at h
  | some p =>
   obtain ⟨n, r⟩ := p
   rw [h4] at h
   have hb2 : byts bs := fun y hy => hb y (by simp [hy])
   obtain ⟨e, hn⟩ := four_back bs hb2 n r h4
   obtain ⟨us, h1, h2, h3, h5⟩ := ops_back m _ r q (fun y hy => hb2 y (four_mem 4 0 bs n r h4 y hy)) h
   have hk := hb k (by simp)
   refine ⟨⟨k, wrapN n⟩ :: us, by rw [h1]; simp, by simp [h2], ?_, fun o ho => ?_⟩
   · rw [List.flatMap_cons, List.append_assoc, ← h3]
     show _ = (k % 256) :: (b4 (wrapN n) ++ r)
     rw [← e, show k % 256 = k by omega]
   · rcases List.mem_cons.1 ho with rfl | ho
     · exact ⟨hk, hn⟩
     · exact h5 o ho
theorem step_read (s : Stp) (r : List Int) (h : fineS s) : step_go (stepB s ++ r) = some (s, r) := by
 obtain ⟨h0, h1, h2, h3, h4⟩ := h
 unfold stepB
 rw [List.append_assoc]
 show step_go (s.f0 % 256 :: s.f1 % 256 :: s.f2 % 256 :: (s.f3.length : Int) % 256 :: (s.f3.flatMap opB ++ r)) = _
 rw [step_ops, show ((s.f3.length : Int) % 256).toNat = s.f3.length by omega, ops_read _ _ _ h4, show s.f0 % 256 = s.f0 by omega, show s.f1 % 256 = s.f1 by omega, show s.f2 % 256 = s.f2 by omega]
 rfl
theorem step_back (bs : List Int) (hb : byts bs) (s : Stp) (r : List Int) (h : step_go bs = some (s, r)) : bs = stepB s ++ r ∧ fineS s := by
 rcases bs with _ | ⟨a, _ | ⟨b, _ | ⟨c_, _ | ⟨n, bs⟩⟩⟩⟩
 · simp [step_go] at h
 · simp [step_go] at h
 · simp [step_go] at h
 · simp [step_go] at h
 · rw [step_ops] at h
   have ha := hb a (by simp)
   have hb' := hb b (by simp)
   have hc := hb c_ (by simp)
   have hn := hb n (by simp)
   cases ho : ops_go n.toNat [] bs with
   | none => rw [ho] at h; simp at h
   | some q =>
    rw [ho] at h
    simp only [Option.map_some, Option.some.injEq, Prod.mk.injEq] at h
    obtain ⟨rfl, rfl⟩ := h
    obtain ⟨us, h1, h2, h3, h4⟩ := ops_back _ _ bs q (fun y hy => hb y (by simp [hy])) ho
    rw [List.nil_append] at h1
    refine ⟨?_, ha, hb', hc, by show q.1.length ≤ 255; rw [h1]; omega, by show ∀ o ∈ q.1, fineO o; rw [h1]; exact h4⟩
    unfold stepB
    rw [List.append_assoc]
    show _ = a % 256 :: b % 256 :: c_ % 256 :: (q.1.length : Int) % 256 :: (q.1.flatMap opB ++ q.2)
    rw [h1, ← h3, h2, show a % 256 = a by omega, show b % 256 = b by omega, show c_ % 256 = c_ by omega, show ((n.toNat : Nat) : Int) % 256 = n by omega]
theorem steps_read : ∀ (us : List Stp) (cs : List Stp) (r : List Int), (∀ s ∈ us, fineS s) → steps_go us.length cs (us.flatMap stepB ++ r) = some (cs ++ us, r)
 | [], cs, r, _ => by simp [steps_go]
 | s :: us, cs, r, h => by
  rw [List.flatMap_cons, List.append_assoc, List.length_cons]
  simp only [steps_go]
  rw [step_read s _ (h s (by simp))]
  show steps_go us.length (cs ++ [s]) (us.flatMap stepB ++ r) = _
  rw [steps_read us _ r (fun x hx => h x (by simp [hx]))]
  simp
theorem steps_back : ∀ (m : Nat) (cs : List Stp) (bs : List Int) (q : List Stp × List Int), byts bs → steps_go m cs bs = some q → ∃ us, q.1 = cs ++ us ∧ us.length = m ∧ bs = us.flatMap stepB ++ q.2 ∧ ∀ s ∈ us, fineS s
 | 0, cs, bs, q, _, h => by
  simp only [steps_go, Option.some.injEq] at h
  subst h
  exact ⟨[], by simp, rfl, by simp, fun o ho => absurd ho (by simp)⟩
 | m + 1, cs, bs, q, hb, h => by
  simp only [steps_go] at h
  cases h4 : step_go bs with
  | none => rw [h4] at h; simp at h
  | some p =>
   obtain ⟨s, r⟩ := p
   rw [h4] at h
   obtain ⟨e, hs⟩ := step_back bs hb s r h4
   obtain ⟨us, h1, h2, h3, h5⟩ := steps_back m _ r q (fun y hy => hb y (step_mem bs s r h4 y hy)) h
   refine ⟨s :: us, by rw [h1]; simp, by simp [h2], ?_, fun o ho => ?_⟩
   · rw [List.flatMap_cons, List.append_assoc, ← h3, ← e]
   · rcases List.mem_cons.1 ho with rfl | ho
     · exact hs
     · exact h5 o ho
theorem codes_read : ∀ (us : List (List Stp)) (l : List (List Stp)) (r : List Int), (∀ c ∈ us, fineC c) → codes_go us.length l (us.flatMap codeB ++ r) = some (l ++ us, r)
 | [], l, r, _ => by simp [codes_go]
 | c :: us, l, r, h => by
  have hc := h c (by simp)
  rw [List.flatMap_cons, List.append_assoc, List.length_cons]
  show codes_go (us.length + 1) l ((c.length : Int) % 256 :: (c.flatMap stepB ++ (us.flatMap codeB ++ r))) = _
  simp only [codes_go]
  rw [show ((c.length : Int) % 256).toNat = c.length by omega, steps_read c [] _ hc.2]
  show codes_go us.length (l ++ [[] ++ c]) (us.flatMap codeB ++ r) = _
  rw [List.nil_append, codes_read us _ r (fun x hx => h x (by simp [hx]))]
  simp
theorem codes_back : ∀ (m : Nat) (l : List (List Stp)) (bs : List Int) (q : List (List Stp) × List Int), byts bs → codes_go m l bs = some q → ∃ us, q.1 = l ++ us ∧ us.length = m ∧ bs = us.flatMap codeB ++ q.2 ∧ ∀ c ∈ us, fineC c
 | 0, l, bs, q, _, h => by
  simp only [codes_go, Option.some.injEq] at h
  subst h
  exact ⟨[], by simp, rfl, by simp, fun o ho => absurd ho (by simp)⟩
 | m + 1, l, [], q, _, h => by simp [codes_go] at h
 | m + 1, l, k :: bs, q, hb, h => by
  simp only [codes_go] at h
  cases h4 : steps_go k.toNat [] bs with
  | none => rw [h4] at h; simp at h
  | some p =>
   obtain ⟨c, r⟩ := p
   rw [h4] at h
   have hk := hb k (by simp)
   have hb2 : byts bs := fun y hy => hb y (by simp [hy])
   obtain ⟨cs, h6, h7, h8, h9⟩ := steps_back _ _ bs _ hb2 h4
   have h6' : c = cs := h6
   subst h6'
   obtain ⟨us, h1, h2, h3, h5⟩ := codes_back m _ r q (fun y hy => hb2 y (steps_mem _ _ bs _ h4 y hy)) h
   refine ⟨c :: us, by rw [h1]; simp, by simp [h2], ?_, fun o ho => ?_⟩
   · rw [List.flatMap_cons, List.append_assoc, ← h3]
     show _ = (c.length : Int) % 256 :: (c.flatMap stepB ++ r)
     rw [h7, show ((k.toNat : Nat) : Int) % 256 = k by omega]
     exact congrArg (k :: ·) h8
   · rcases List.mem_cons.1 ho with rfl | ho
     · exact ⟨by omega, h9⟩
     · exact h5 o ho
theorem all_read (l : List (List Stp)) (r : List Int) (hl : l.length ≤ 255) (h : ∀ c ∈ l, fineC c) : all_go (bytesL l ++ r) = some (l, r) := by
 show codes_go ((l.length : Int) % 256).toNat [] (l.flatMap codeB ++ r) = _
 rw [show ((l.length : Int) % 256).toNat = l.length by omega, codes_read l [] r h, List.nil_append]
theorem all_back (bs : List Int) (hb : byts bs) (l : List (List Stp)) (r : List Int) (h : all_go bs = some (l, r)) : bs = bytesL l ++ r ∧ l.length ≤ 255 ∧ ∀ c ∈ l, fineC c := by
 rcases bs with _ | ⟨n, bs⟩
 · simp [all_go] at h
 · have hn := hb n (by simp)
   have h' : codes_go n.toNat [] bs = some (l, r) := h
   obtain ⟨us, h1, h2, h3, h5⟩ := codes_back _ _ bs _ (fun y hy => hb y (by simp [hy])) h'
   have h1' : l = us := h1
   subst h1'
   refine ⟨?_, by omega, h5⟩
   show _ = (l.length : Int) % 256 :: (l.flatMap codeB ++ r)
   rw [h2, show ((n.toNat : Nat) : Int) % 256 = n by omega]
   exact congrArg (n :: ·) h3
theorem may_fine {s : Stp} (h : mayC s = true) : fineS s := by
 have hl := mayC_len h
 have r : reckB s.f3 = true → ∀ o ∈ s.f3, fineO o := fun h o ho => by
  unfold reckB at h
  simp only [Bool.and_eq_true, beq_iff_eq] at h
  have hm := (checkB_ok h.1).2.2.1 o ho
  unfold mayB at hm
  unfold fineO by8 i32R
  split at hm
  · rename_i e; unfold inR at hm; have := of_decide_eq_true hm; omega
  · split at hm
    · rename_i e; have := of_decide_eq_true hm; omega
    · split at hm
      · rename_i e; have := of_decide_eq_true hm; omega
      · rw [Bool.and_eq_true, decide_eq_true_eq, beq_iff_eq] at hm
        obtain ⟨ht, hz⟩ := hm
        unfold takes at ht
        repeat' split at ht
        all_goals omega
 have z : (s.f3.length == 0) = true → ∀ o ∈ s.f3, fineO o := fun h o ho => by
  have : s.f3 = [] := List.length_eq_zero_iff.1 (beq_iff_eq.1 h)
  rw [this] at ho
  exact absurd ho (by simp)
 have B : ∀ {a lo hi : Int}, btw a lo hi = true → lo ≤ a ∧ a ≤ hi := fun h => of_decide_eq_true h
 unfold mayC at h
 unfold fineS by8
 repeat' split at h
 all_goals try simp only [Bool.and_eq_true, beq_iff_eq] at h
 all_goals first
  | exact absurd h (by decide)
  | (have a := B h.1.2; have b := B h.2; exact ⟨by omega, by omega, by omega, by omega, z (beq_iff_eq.2 h.1.1)⟩)
  | (have a := B h.1.1; have b := h.1.2; exact ⟨by omega, by omega, by omega, by omega, r h.2⟩)
  | (have a := B h.1.2; have b := h.2; exact ⟨by omega, by omega, by omega, by omega, z (beq_iff_eq.2 h.1.1)⟩)
  | (have a := h.1.2; have b := h.2; exact ⟨by omega, by omega, by omega, by omega, z (beq_iff_eq.2 h.1.1)⟩)
theorem check_fine {c : List Stp} (h : checkC c = 0) : fineC c := by
 obtain ⟨h1, h2, _⟩ := checkC_ok h
 exact ⟨by omega, fun s hs => may_fine (h2 s hs)⟩
theorem byts_b4 (n : Int) : byts (b4 n) := by
 intro b hb
 unfold b4 at hb
 simp only [List.mem_cons, List.not_mem_nil, or_false] at hb
 omega
theorem byts_flat {α : Type} (f : α → List Int) (l : List α) (h : ∀ x ∈ l, byts (f x)) : byts (l.flatMap f) := by
 intro b hb
 obtain ⟨x, hx, h2⟩ := List.mem_flatMap.1 hb
 exact h x hx b h2
theorem byts_op (o : TOp) : byts (opB o) := by
 intro b hb
 unfold opB at hb
 rcases List.mem_cons.1 hb with rfl | hb
 · omega
 · exact byts_b4 _ b hb
theorem byts_step (s : Stp) : byts (stepB s) := by
 intro b hb
 unfold stepB at hb
 rcases List.mem_append.1 hb with hb | hb
 · simp only [List.mem_cons, List.not_mem_nil, or_false] at hb; omega
 · exact byts_flat opB _ (fun o _ => byts_op o) b hb
theorem byts_code (c : List Stp) : byts (codeB c) := by
 intro b hb
 unfold codeB at hb
 rcases List.mem_cons.1 hb with rfl | hb
 · omega
 · exact byts_flat stepB _ (fun o _ => byts_step o) b hb
theorem byts_all (l : List (List Stp)) : byts (bytesL l) := by
 intro b hb
 unfold bytesL at hb
 rcases List.mem_cons.1 hb with rfl | hb
 · omega
 · exact byts_flat codeB _ (fun o _ => byts_code o) b hb
def readB (b : List Int) : List (List Stp) × Int := match all_go b with | none => ([], 2) | some (l, r) => if (writeB l).2 = 0 ∧ r = [] then (l, 0) else ([], 2)
theorem Read_f (k : Nat) (b : List Int) (hb : byts b) (hk : 60 ≤ k) : shape_Read.f k b = some (readB b) := by
 unfold shape_Read.f readB
 rw [if_pos (List.all_eq_true.2 fun x hx => decide_eq_true (hb x hx))]
 cases all_go b with
 | none => rfl
 | some q =>
  obtain ⟨l, r⟩ := q
  show ((shape_Write.f k l).bind _) = _
  rw [Write_f k l hk, Option.bind_some]
  by_cases h : (writeB l).2 = 0
  · rw [if_pos h]
    cases r with
    | nil => rw [if_neg (by simp)]; simp [h]
    | cons x r => rw [if_pos (by rw [List.length_cons]; omega)]; simp
  · rw [if_neg h]; simp [h]
theorem write_ok {l : List (List Stp)} (h : (writeB l).2 = 0) : l.length ≤ 8 ∧ (∀ c ∈ l, checkC c = 0) ∧ writeB l = (bytesL l, 0) := by
 unfold writeB at h ⊢
 split at h
 · rename_i g
   rw [if_pos g]
   exact ⟨g.1, (okL_iff l).1 g.2, rfl⟩
 · exact absurd h (by decide)
theorem read_ok {b : List Int} (hb : byts b) (h : (readB b).2 = 0) : ∃ l, readB b = (l, 0) ∧ (writeB l).2 = 0 ∧ b = bytesL l := by
 unfold readB at h ⊢
 cases ha : all_go b with
 | none => rw [ha] at h; exact absurd h (by decide)
 | some q =>
  obtain ⟨l, r⟩ := q
  rw [ha] at h
  dsimp only at h ⊢
  split at h
  · rename_i g
    rw [if_pos g]
    obtain ⟨e, _⟩ := all_back b hb l r ha
    rw [g.2, List.append_nil] at e
    exact ⟨l, rfl, g.1, e⟩
  · exact absurd h (by decide)
theorem read_no {b : List Int} (h : (readB b).2 ≠ 0) : readB b = ([], 2) := by
 unfold readB at h ⊢
 cases ha : all_go b with
 | none => rfl
 | some q =>
  rw [ha] at h
  dsimp only at h ⊢
  split at h
  · exact absurd rfl h
  · rename_i g; rw [if_neg g]
theorem read_write {l : List (List Stp)} (h : (writeB l).2 = 0) (r : List Int) : readB (bytesL l ++ r) = if r = [] then (l, 0) else ([], 2) := by
 obtain ⟨h1, h2, _⟩ := write_ok h
 unfold readB
 rw [all_read l r (by omega) (fun c hc => check_fine (h2 c hc))]
 dsimp only
 by_cases hr : r = []
 · rw [if_pos ⟨h, hr⟩, if_pos hr]
 · rw [if_neg (fun g => hr g.2), if_neg hr]
end Go.Proofs.Ytpeblomhhofhkaa.H
