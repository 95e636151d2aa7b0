/- WRITTEN BY A PROGRAM of this session (wip/tool: a turned copy of the printer), out of the translation: Lean functions with the answers of the Go functions, and the proofs that the Go code comes to them. -/
import Derived.Test.YtjmhfbgpebgcmaaDoorPNumReadsx0
import Derived.Test.YtjmhfbgpebgcmaaDoorPNumReadsx1
namespace Go.Proofs.YtjmhfbgpebgcmaaDoor.PNumReads
open Go.RowKit Go.Proofs.YtjmhfbgpebgcmaaDoorW.PrintWords Go.Proofs.YtjmhfbgpebgcmaaDoorW.PrintLast Go.Proofs.YtjmhfbgpebgcmaaDoorW.PrintMore
attribute [local go_sem] max2_int min2_int max_two min_two max_three min_three max_four min_four   -- for this text's walks alone
set_option linter.unusedVariables false
set_option linter.unusedSimpArgs false

/-! ### num_Reader_Blob: function 19 -/
def num_Reader_Blob.f (k : Nat) (s0_0 : List Int) (s0_1 : Int) (s0_2 : Int) (s0_3 : Int) (a1 : Int) : Option (List Int × Int × Int × Int) :=
  if s0_2 ≠ 0 then some ([], s0_1, s0_2, s0_3)
  else if 0 ≤ s0_1 ∧ s0_1 ≤ (s0_0.length : Int) ∧ (s0_0.length : Int) ≤ 140737488355328 then
    (num_short.f k (s0_0.drop s0_1.toNat)).bind fun t =>
      if t.2.2 ≠ 0 then some ([], s0_1, t.2.2, s0_1)
      else if 0 ≤ t.2.1 ∧ s0_1 + t.2.1 ≤ (s0_0.length : Int) ∧ 0 ≤ t.1 ∧ t.1 < 18446744073709551616 then
        if a1 < 0 ∨ IntKind.u64.wrap a1 < t.1 then some ([], s0_1, 12, s0_1)
        else if (s0_0.length : Int) - s0_1 - t.2.1 < t.1 then some ([], s0_1, 2, s0_1)
        else num_Reader_Take.f s0_0 (s0_1 + t.2.1) 0 s0_3 t.1
      else none
  else none
theorem num_Reader_Blob.mono : ∀ s0_0 s0_1 s0_2 s0_3 a1 k, LeO (num_Reader_Blob.f k s0_0 s0_1 s0_2 s0_3 a1) (num_Reader_Blob.f (k + 1) s0_0 s0_1 s0_2 s0_3 a1) := by
  intro s0 s1 s2 s3 a1 k r h
  unfold num_Reader_Blob.f at h ⊢
  by_cases h0 : s2 ≠ 0
  · rw [if_pos h0] at h ⊢; exact h
  · rw [if_neg h0] at h ⊢
    by_cases h1 : 0 ≤ s1 ∧ s1 ≤ (s0.length : Int) ∧ (s0.length : Int) ≤ 140737488355328
    · rw [if_pos h1] at h ⊢
      obtain ⟨t, ht, h⟩ := Option.bind_eq_some_iff.mp h
      rw [num_short.mono _ k _ ht, Option.bind_some]; exact h
    · rw [if_neg h1] at h; cases h
set_option maxRecDepth 100000 in
set_option maxHeartbeats 16000000 in
theorem num_Reader_Blob.calls (k : Nat) (g : Nat) (s0_0 : List Int) (s0_1 : Int) (s0_2 : Int) (s0_3 : Int) (a1 : Int) (r1 : List Int) (r2 r3 r4 : Int) (w0 w : World) (hI : IsS71 w0 w g s0_0 s0_1 s0_2 s0_3) (hB : Below w0.heap.size w0 w) (h : num_Reader_Blob.f k s0_0 s0_1 s0_2 s0_3 a1 = some (r1, r2, r3, r4)) :
    Calls Tryd.prog 19 #[.pointer (some ⟨g, 0, none⟩), .int .i64 a1] w fun e w' => ∃ v0_ : Value, e = .returned v0_ ∧ (Kd.int .u8).R 5 w' w.heap.size (fun _ => True) v0_ r1 ∧ IsS71 w0 w' g s0_0 r2 r3 r4 ∧ Below w0.heap.size w0 w' ∧ KeepBut w w' g none := by
  unfold num_Reader_Blob.f at h
  have hI0 := hI
  obtain ⟨A1, c1, ev, hb, hc0, hc1, hc2, hfz, hr, hf⟩ := hI.open
  have hg := hI.ge
  by_cases h0 : s0_2 ≠ 0
  · rw [if_pos h0] at h
    simp only [Option.some.injEq, Prod.mk.injEq] at h
    obtain ⟨rfl, rfl, rfl, rfl⟩ := h
    have d0 : decide (s0_2 = 0) = false := decide_eq_false h0
    go_enter Tryd.func19, Tryd.ntmps19
    go_wp2_with (go_at_call 49; refine (num_Reader_ok.walk g _ _ _ _ w0 _ hI0).mono ?_; rintro e w' ⟨he, rfl⟩; rw [d0] at he; subst he)
    go_ret
    exact ⟨_, rfl, Kd.R_nil _ _ _ _ _, hI0, hB, KeepBut.refl _ _ _⟩
  rw [if_neg h0] at h
  by_cases hb0 : 0 ≤ s0_1 ∧ s0_1 ≤ (s0_0.length : Int) ∧ (s0_0.length : Int) ≤ 140737488355328
  case neg => rw [if_neg hb0] at h; cases h
  rw [if_pos hb0] at h
  obtain ⟨⟨t1, t2, t3⟩, ht, hh⟩ := Option.bind_eq_some_iff.mp h
  clear h
  have h := hh
  clear hh
  dsimp only at h
  obtain ⟨hb1, hb2, hb3⟩ := hb0
  have h0 : s0_2 = 0 := by simpa using h0
  have d0 : decide (s0_2 = 0) = true := decide_eq_true h0
  obtain ⟨_, hcc, hC⟩ := Kd.R_reads' hr
  have hmid := Kd.C_drop (m := s0_1.toNat) hC (by omega) hcc
  have hmid : (Kd.int .u8).C w (if c1 = s0_1.toNat then A1 else A1.map (fun x => x.add s0_1.toNat)) (s0_0.drop s0_1.toNat).length (s0_0.drop s0_1.toNat) := by simpa [Kd.int, Kd.scalar] using hmid
  have hst : s0_0.length - s0_1.toNat = (s0_0.drop s0_1.toNat).length := by rw [List.length_drop]
  have hle : (s0_0.drop s0_1.toNat).length ≤ c1 - s0_1.toNat := by omega
  have hl5 : s0_1 ≤ (c1 : Int) := by omega
  have hKC : (Kd.int .u8).C w.drew (if c1 = s0_1.toNat then A1 else A1.map (fun x => x.add s0_1.toNat)) (s0_0.drop s0_1.toNat).length (s0_0.drop s0_1.toNat) := Kd.C_below hmid (below_drew1 (Below.refl _ _))
  have hLK := fun (A0 : Option Addr) (c0 : Nat) (W : World) h1 h2 => num_short.calls k A0 c0 (s0_0.drop s0_1.toNat) t1 t2 t3 W h1 h2 ht
  generalize hL : s0_0.drop s0_1.toNat = l1 at *
  clear hmid hL ht hC hr hf hb
  have hw : wrap64 ((s0_0.length : Int) - s0_1) = (s0_0.length : Int) - s0_1 := by unfold wrap64; omega
  have hnx : ∀ x, x ≠ 0 → num_Reader_Fail.next s0_2 s0_1 s0_3 x = (x, s0_1) := fun x hx => if_pos ⟨h0, hx⟩
  by_cases h3 : t3 ≠ 0
  · rw [if_pos h3] at h
    have h3 : ¬ t3 = 0 := h3
    simp only [Option.some.injEq, Prod.mk.injEq] at h
    obtain ⟨rfl, e2, e3, e4⟩ := h
    subst e2 e3 e4
    have hF := fun W h1 h2 => num_Reader_Fail.walk g s0_0 s0_1 s0_2 s0_3 t3 w0 W h1 h2
    rw [hnx _ (h3)] at hF
    by_cases hcs : c1 = s0_1.toNat
    case' pos => rw [if_pos hcs] at hKC; subst hcs
    case' neg => rw [if_neg hcs] at hKC
    all_goals
      go_enter Tryd.func19, Tryd.ntmps19
      go_wp2_with (go_at_call 49; refine (num_Reader_ok.walk g _ _ _ _ w0 _ hI0).mono ?_; rintro e w' ⟨he, rfl⟩; rw [d0] at he; subst he)
      go_region_with (go_at_call 50; refine (hLK _ _ _ hKC (by omega)).mono ?_; rintro e w2 ⟨rfl, ⟨m, rfl⟩⟩)
      all_goals
        go_wp2_with ((go_at_call 17; refine (hF _ (by repeat (first | exact hI0 | apply IsS71.drewN | apply IsS71.drew)) (by repeat (first | exact hB | apply pw_below_drewN | apply below_drew1))).mono ?_; rintro e w5 ⟨rfl, hI5, hB5, hK5⟩))
        go_ret
        exact ⟨_, rfl, Kd.R_nil _ _ _ _ _, hI5, hB5, KeepBut.trans (by repeat (first | exact KeepBut.refl _ _ _ | apply keep_drewN | apply keep_drew)) hK5 (.inl rfl)⟩
  rw [if_neg h3] at h
  have h3 : t3 = 0 := by simpa using h3
  subst h3
  by_cases hb4 : 0 ≤ t2 ∧ s0_1 + t2 ≤ (s0_0.length : Int) ∧ 0 ≤ t1 ∧ t1 < 18446744073709551616
  case neg => rw [if_neg hb4] at h; cases h
  rw [if_pos hb4] at h
  obtain ⟨hb5, hb6, hb7, hb8⟩ := hb4
  by_cases h4 : a1 < 0
  · rw [if_pos (.inl h4)] at h
    simp only [Option.some.injEq, Prod.mk.injEq] at h
    obtain ⟨rfl, e2, rfl, e4⟩ := h
    subst e2 e4
    have d4 : decide (a1 < 0) = true := decide_eq_true h4
    have hF := fun W h1 h2 => num_Reader_Fail.walk g s0_0 s0_1 s0_2 s0_3 12 w0 W h1 h2
    rw [hnx _ (by decide)] at hF
    by_cases hcs : c1 = s0_1.toNat
    case' pos => rw [if_pos hcs] at hKC; subst hcs
    case' neg => rw [if_neg hcs] at hKC
    all_goals
      go_enter Tryd.func19, Tryd.ntmps19
      go_wp2_with (go_at_call 49; refine (num_Reader_ok.walk g _ _ _ _ w0 _ hI0).mono ?_; rintro e w' ⟨he, rfl⟩; rw [d0] at he; subst he)
      go_region_with (go_at_call 50; refine (hLK _ _ _ hKC (by omega)).mono ?_; rintro e w2 ⟨rfl, ⟨m, rfl⟩⟩)
      all_goals
        go_wp2_with ((go_at_call 17; refine (hF _ (by repeat (first | exact hI0 | apply IsS71.drewN | apply IsS71.drew)) (by repeat (first | exact hB | apply pw_below_drewN | apply below_drew1))).mono ?_; rintro e w5 ⟨rfl, hI5, hB5, hK5⟩))
        go_ret
        exact ⟨_, rfl, Kd.R_nil _ _ _ _ _, hI5, hB5, KeepBut.trans (by repeat (first | exact KeepBut.refl _ _ _ | apply keep_drewN | apply keep_drew)) hK5 (.inl rfl)⟩
  have d4 : decide (a1 < 0) = false := decide_eq_false h4
  by_cases h6 : IntKind.u64.wrap a1 < t1
  · rw [if_pos (.inr h6)] at h
    simp only [Option.some.injEq, Prod.mk.injEq] at h
    obtain ⟨rfl, e2, rfl, e4⟩ := h
    subst e2 e4
    have d6 : decide (IntKind.u64.wrap a1 < t1) = true := decide_eq_true h6
    have hF := fun W h1 h2 => num_Reader_Fail.walk g s0_0 s0_1 s0_2 s0_3 12 w0 W h1 h2
    rw [hnx _ (by decide)] at hF
    by_cases hcs : c1 = s0_1.toNat
    case' pos => rw [if_pos hcs] at hKC; subst hcs
    case' neg => rw [if_neg hcs] at hKC
    all_goals
      go_enter Tryd.func19, Tryd.ntmps19
      go_wp2_with (go_at_call 49; refine (num_Reader_ok.walk g _ _ _ _ w0 _ hI0).mono ?_; rintro e w' ⟨he, rfl⟩; rw [d0] at he; subst he)
      go_region_with (go_at_call 50; refine (hLK _ _ _ hKC (by omega)).mono ?_; rintro e w2 ⟨rfl, ⟨m, rfl⟩⟩)
      all_goals
        go_wp2_with ((go_at_call 17; refine (hF _ (by repeat (first | exact hI0 | apply IsS71.drewN | apply IsS71.drew)) (by repeat (first | exact hB | apply pw_below_drewN | apply below_drew1))).mono ?_; rintro e w5 ⟨rfl, hI5, hB5, hK5⟩))
        go_ret
        exact ⟨_, rfl, Kd.R_nil _ _ _ _ _, hI5, hB5, KeepBut.trans (by repeat (first | exact KeepBut.refl _ _ _ | apply keep_drewN | apply keep_drew)) hK5 (.inl rfl)⟩
  rw [if_neg (by rintro (h | h); exact h4 h; exact h6 h)] at h
  have hu1 : wrap64 ((s0_0.length : Int) - s0_1 - t2) = (s0_0.length : Int) - s0_1 - t2 := by unfold wrap64; omega
  have hu2 : IntKind.u64.wrap ((s0_0.length : Int) - s0_1 - t2) = (s0_0.length : Int) - s0_1 - t2 := by simp [IntKind.wrap, IntKind.bits, IntKind.signed]; omega
  have d6 : decide (IntKind.u64.wrap a1 < t1) = false := decide_eq_false h6
  by_cases h7 : (s0_0.length : Int) - s0_1 - t2 < t1
  · rw [if_pos h7] at h
    simp only [Option.some.injEq, Prod.mk.injEq] at h
    obtain ⟨rfl, e2, rfl, e4⟩ := h
    subst e2 e4
    have d7 : decide ((s0_0.length : Int) - s0_1 - t2 < t1) = true := decide_eq_true h7
    have hF := fun W h1 h2 => num_Reader_Fail.walk g s0_0 s0_1 s0_2 s0_3 2 w0 W h1 h2
    rw [hnx _ (by decide)] at hF
    by_cases hcs : c1 = s0_1.toNat
    case' pos => rw [if_pos hcs] at hKC; subst hcs
    case' neg => rw [if_neg hcs] at hKC
    all_goals
      go_enter Tryd.func19, Tryd.ntmps19
      go_wp2_with (go_at_call 49; refine (num_Reader_ok.walk g _ _ _ _ w0 _ hI0).mono ?_; rintro e w' ⟨he, rfl⟩; rw [d0] at he; subst he)
      go_region_with (go_at_call 50; refine (hLK _ _ _ hKC (by omega)).mono ?_; rintro e w2 ⟨rfl, ⟨m, rfl⟩⟩)
      all_goals
        go_wp2_with (first | (go_at_call 21; refine (num_Reader_Left.walk g _ _ _ _ w0 _ (by repeat (first | exact hI0 | apply IsS71.drewN | apply IsS71.drew))).mono ?_; rintro e w4 ⟨rfl, ⟨m4, rfl⟩⟩; rw [hw]) | (go_at_call 17; refine (hF _ (by repeat (first | exact hI0 | apply IsS71.drewN | apply IsS71.drew)) (by repeat (first | exact hB | apply pw_below_drewN | apply below_drew1))).mono ?_; rintro e w5 ⟨rfl, hI5, hB5, hK5⟩))
        go_ret
        exact ⟨_, rfl, Kd.R_nil _ _ _ _ _, hI5, hB5, KeepBut.trans (by repeat (first | exact KeepBut.refl _ _ _ | apply keep_drewN | apply keep_drew)) hK5 (.inl rfl)⟩
  rw [if_neg h7] at h
  have d7 : decide ((s0_0.length : Int) - s0_1 - t2 < t1) = false := decide_eq_false h7
  have hw1 : wrap64 (s0_1 + t2) = s0_1 + t2 := by unfold wrap64; omega
  have hw2 : wrap64 t1 = t1 := by unfold wrap64; omega
  have hw3 : IntKind.i64.wrap t1 = t1 := (IntKind.wrap_i64 _).trans (by omega)
  subst h0
  have hT := fun W h1 h2 => num_Reader_Take.calls g s0_0 (s0_1 + t2) 0 s0_3 t1 r1 r2 r3 r4 w0 W h1 h2 h
  by_cases hcs : c1 = s0_1.toNat
  case' pos => rw [if_pos hcs] at hKC; subst hcs
  case' neg => rw [if_neg hcs] at hKC
  all_goals
    go_enter Tryd.func19, Tryd.ntmps19
    go_wp2_with (go_at_call 49; refine (num_Reader_ok.walk g _ _ _ _ w0 _ hI0).mono ?_; rintro e w' ⟨he, rfl⟩; rw [d0] at he; subst he)
    go_region_with (go_at_call 50; refine (hLK _ _ _ hKC (by omega)).mono ?_; rintro e w2 ⟨rfl, ⟨m, rfl⟩⟩)
    all_goals
      go_wp2_with (first | (go_at_call 21; refine (num_Reader_Left.walk g _ _ _ _ w0 _ (by repeat (first | exact hI0 | apply IsS71.drewN | apply IsS71.drew))).mono ?_; rintro e w4 ⟨rfl, ⟨m4, rfl⟩⟩; rw [hw]) | (go_at_call 14; refine (hT _ (IsS71.set_1 (by repeat (first | exact hI0 | apply IsS71.drewN | apply IsS71.drew)) _) (Below.setCell (p := ⟨g, 1, none⟩) (by repeat (first | exact hB | apply pw_below_drewN | apply below_drew1)) hg _)).mono ?_; rintro e w5 ⟨v5, rfl, hR5, hI5, hB5, hK5⟩))
      go_ret
      exact ⟨_, rfl, Kd.R_lower hR5 (by simp), hI5, hB5, KeepBut.trans (KeepBut.set_ (by repeat (first | exact KeepBut.refl _ _ _ | apply keep_drewN | apply keep_drew)) _ _) hK5 (.inl rfl)⟩

-- NOT PRINTED: function 20 (num_Reader_At)

/-! ### num_PutVar: function 11 -/
def num_PutVar.l0 : Nat → List Int → Int → Option (List Int)
  | 0, _, _ => none
  | k + 1, x0, x1 => if x1 ≥ 128 then (if x0.length < 140737488355328 then (num_PutVar.l0 k (x0 ++ [Go.bits .or .u8 ((x1) % 256) 128]) (x1 / 128)) else (none)) else (if x0.length < 140737488355328 then (some (x0 ++ [(x1) % 256])) else (none))
def num_PutVar.f (k : Nat) (l0 : List Int) (a1 : Int) : Option (List Int) := num_PutVar.l0 k l0 a1
theorem num_PutVar.mono_l : ∀ k, (∀ y0 y1, LeO (num_PutVar.l0 k y0 y1) (num_PutVar.l0 (k + 1) y0 y1))
  | 0 => fun _ _ r h => by simp [num_PutVar.l0] at h
  | k + 1 => by
    have ih0 := num_PutVar.mono_l k
    · intro y0 y1
      unfold num_PutVar.l0
      repeat' first
      | (with_reducible exact ih0 _ _)
      | (with_reducible exact LeO.refl _)
      | (with_reducible exact LeO.none _)
      | (with_reducible refine LeO.ite ?_ ?_)
      | (with_reducible refine LeO.bind ?_ (fun _ => ?_))
      | exact ih0 _ _
      | exact LeO.none _
      | refine LeO.ite ?_ ?_
      | refine LeO.bind ?_ (fun _ => ?_)
theorem num_PutVar.mono : ∀ a0 a1 k, LeO (num_PutVar.f k a0 a1) (num_PutVar.f (k + 1) a0 a1) := by
  intro a0 a1 k
  have ih0 := num_PutVar.mono_l k
  unfold num_PutVar.f
  repeat' first
      | (with_reducible exact ih0 _ _)
      | (with_reducible exact LeO.refl _)
      | (with_reducible exact LeO.none _)
      | (with_reducible refine LeO.ite ?_ ?_)
      | (with_reducible refine LeO.bind ?_ (fun _ => ?_))
      | exact ih0 _ _
      | exact LeO.none _
      | refine LeO.ite ?_ ?_
      | refine LeO.bind ?_ (fun _ => ?_)
set_option maxHeartbeats 8000000 in
set_option maxRecDepth 100000 in
theorem num_PutVar.calls (k : Nat) (P0_ : Nat → Prop) (u9000_ : Value) (l0 : List Int) (a1 : Int) (r : List Int) (w0 w : World) (hB : Below w0.heap.size w0 w) (ho0 : Kd.R (Kd.int .u8) 5 w w0.heap.size P0_ u9000_ l0) (h : num_PutVar.f k l0 a1 = some r) :
    Calls Tryd.prog 11 #[u9000_, .int .u64 a1] w fun e w' => ∃ v0_ : Value, e = .returned (v0_) ∧ Kd.R (Kd.int .u8) 5 w' w0.heap.size (fun k_ => (P0_ k_ ∨ w.heap.size ≤ k_)) v0_ r ∧ Below w0.heap.size w0 w' ∧ Kept w w' (fun k_ => P0_ k_) := by
  have HO0 := Aside0.mk (show Kd.R (Kd.int .u8) 5 w w0.heap.size (fun k_ => (P0_ k_ ∨ w.heap.size ≤ k_)) u9000_ l0 from Kd.R_mono ho0 (fun k_ hk => (.inl hk)))
  have HK := Aside0.mk (Kept.refl w (fun k_ => P0_ k_))
  have HW0 := Aside0.mk hB.size
  have HB := Aside0.mk hB
  clear hB
  have H : (num_PutVar.l0 k l0 a1) = some r := h
  clear h
  have H' := Aside0.mk H
  clear H
  go_enter Tryd.func11, Tryd.ntmps11
  go_wp2
  go_loopg [0, 1] k (fun kq v0 v1 w' => ∃ (x0_1 : List Int) (x1_1 : Int), v1 = .int .u64 x1_1 ∧ Aside0 (num_PutVar.l0 kq x0_1 x1_1 = some r) ∧ Aside0 (kq ≤ k) ∧ Aside0 (Kd.R (Kd.int .u8) 5 w' w0.heap.size (fun k_ => (P0_ k_ ∨ w.heap.size ≤ k_)) v0 x0_1) ∧ Aside0 (Kept w w' (fun k_ => P0_ k_)) ∧ Aside0 (Below w0.heap.size w0 w'))
  case atStart => exact ⟨(l0), (a1), (by first | rfl | (simp; done) | (simp [*]; done)), H', ⟨Nat.le_refl _⟩, ⟨by (with_reducible repeat (first | apply Kd.R_alloc | apply Kd.R_drewN | apply Kd.R_drew)); exact HO0.out⟩, ⟨by repeat (first | (with_reducible first | exact HK.out | apply Kept.alloc | apply Kept.drewN | apply Kept.drew) | exact HK.out)⟩, ⟨by repeat (first | (with_reducible first | exact HB.out | apply below_alloc | apply pw_below_drewN | apply below_drew1) | exact HB.out)⟩⟩
  case round =>
    clear H'
    try clear c1
    try clear p2
    obtain ⟨x0_1, x1_1, rfl, HA, HK1, HO_0, HK, HB⟩ := hrel
    cases gk with
    | zero => exact absurd HA.out (by simp [num_PutVar.l0])
    | succ k1 =>
      have H := HA.out
      clear HA
      simp only [num_PutVar.l0] at H
      by_cases c3 : x1_1 ≥ 128
      · rw [if_pos c3] at H
        have c3b0 : decide (128 ≤ x1_1) = true := decide_eq_true c3
        clear c3
        by_cases c4 : x0_1.length < 140737488355328
        · rw [if_pos c4] at H
          have LMc4 := Aside0.mk c4
          clear c4
          obtain ⟨y151, hy151⟩ : ∃ y_ : List Int, y_ = (x0_1 ++ [Go.bits .or .u8 ((x1_1) % 256) 128]) := ⟨_, rfl⟩
          replace H : (num_PutVar.l0 k1 y151 (x1_1 / 128)) = some r := by first | (rw [hy151]; with_reducible exact H) | (have H2_ := (Option.bind_some _ _).symm.trans H; rw [hy151]; with_reducible exact H2_) | (have H2_ := (Option.bind_some _ _).symm.trans H; with_reducible exact H2_) | with_reducible exact H | (rw [hy151]; exact H) | exact H
          have Ny151 := Aside0.mk hy151
          clear hy151
          have H' := Aside0.mk H
          clear H
          go_wp2_with (first | ((with_reducible refine gate_builtin (b := .append) (xs := #[.tmp 9, .tmp 13]) rfl ?_); at_builtin; refine Kd.R_append (Kd.int .u8) (w0 := w0) w0.heap.size rfl (.tmp 9) (.tmp 13) 23 5 (.int .u8 0) 1 rfl Tryd.underlying23 info5 rfl (by decide) (by omega) u0 x0_1 (Go.bits .or .u8 ((x1_1) % 256) 128) [.int .u8 (Go.bits .or .u8 ((x1_1) % 256) 128)] (fun k_ => (P0_ k_ ∨ w.heap.size ≤ k_)) (fun _ => False) rfl rfl ?aP (fun _ hk => hk.elim) ?aF ?aO ?aB ?aS ?aL ?_; (case aP => exact rfl); (case aB => exact (by repeat (first | (with_reducible first | exact HB.out | apply below_alloc | apply pw_below_drewN | apply below_drew1) | exact HB.out))); (case aF => exact (fun k_ hk => (.inr (Nat.le_trans (by first | exact HK.out.1 | exact (show Kept w _ (fun k_ => P0_ k_) from by repeat (first | (with_reducible first | exact HK.out | apply Kept.alloc | apply Kept.drewN | apply Kept.drew) | exact HK.out)).1) hk)))); (case aO => exact (by (with_reducible repeat (first | apply Kd.R_alloc | apply Kd.R_drewN | apply Kd.R_drew)); exact HO_0.out)); (case aS => exact (below_size (by repeat (first | (with_reducible first | exact HB.out | apply below_alloc | apply pw_below_drewN | apply below_drew1) | exact HB.out)))); (case aL => have := LMc4.out; omega); intro v152 w5 ho hb hg hat; rw [← Ny151.out] at ho; have n0_ := Aside0.mk (hb); have n1_ := Aside0.mk (Kept.of_grown (S := (fun k_ => P0_ k_)) hg (by repeat (first | (with_reducible first | exact HK.out | apply Kept.alloc | apply Kept.drewN | apply Kept.drew) | exact HK.out)) (fun k_ e_ => (HO_0.out.1 k_ e_))); have n2_ := Aside0.mk (ho); clear HB; clear HK; clear HO_0; have HB := n0_; have HK := n1_; have HO153 := n2_; clear n0_ n1_ n2_; clear ho hb hg hat))
          go_roundg k1
          case measure => have := HK1.out; omega
          case rel => exact ⟨(y151), (x1_1 / 128), (by first | rfl | (simp; done) | (simp [*]; done)), H', ⟨by have := HK1.out; omega⟩, ⟨by (with_reducible repeat (first | apply Kd.R_alloc | apply Kd.R_drewN | apply Kd.R_drew)); exact HO153.out⟩, ⟨by repeat (first | (with_reducible first | exact HK.out | apply Kept.alloc | apply Kept.drewN | apply Kept.drew) | exact HK.out)⟩, ⟨by repeat (first | (with_reducible first | exact HB.out | apply below_alloc | apply pw_below_drewN | apply below_drew1) | exact HB.out)⟩⟩
        · rw [if_neg c4] at H
          exact absurd H (by simp)
      · rw [if_neg c3] at H
        have c3b0 : decide (128 ≤ x1_1) = false := decide_eq_false c3
        clear c3
        by_cases c6 : x0_1.length < 140737488355328
        · rw [if_pos c6] at H
          have LMc6 := Aside0.mk c6
          clear c6
          obtain ⟨y154, hy154⟩ : ∃ y_ : List Int, y_ = (x0_1 ++ [(x1_1) % 256]) := ⟨_, rfl⟩
          replace H : (some y154) = some r := by first | (rw [hy154]; with_reducible exact H) | (have H2_ := (Option.bind_some _ _).symm.trans H; rw [hy154]; with_reducible exact H2_) | (have H2_ := (Option.bind_some _ _).symm.trans H; with_reducible exact H2_) | with_reducible exact H | (rw [hy154]; exact H) | exact H
          have Ny154 := Aside0.mk hy154
          clear hy154
          obtain rfl := Option.some.inj H
          go_wp2_with (first | ((with_reducible refine gate_builtin (b := .append) (xs := #[.tmp 15, .tmp 18]) rfl ?_); at_builtin; refine Kd.R_append (Kd.int .u8) (w0 := w0) w0.heap.size rfl (.tmp 15) (.tmp 18) 23 5 (.int .u8 0) 1 rfl Tryd.underlying23 info5 rfl (by decide) (by omega) u0 x0_1 ((x1_1) % 256) [.int .u8 ((x1_1) % 256)] (fun k_ => (P0_ k_ ∨ w.heap.size ≤ k_)) (fun _ => False) rfl rfl ?aP (fun _ hk => hk.elim) ?aF ?aO ?aB ?aS ?aL ?_; (case aP => exact rfl); (case aB => exact (by repeat (first | (with_reducible first | exact HB.out | apply below_alloc | apply pw_below_drewN | apply below_drew1) | exact HB.out))); (case aF => exact (fun k_ hk => (.inr (Nat.le_trans (by first | exact HK.out.1 | exact (show Kept w _ (fun k_ => P0_ k_) from by repeat (first | (with_reducible first | exact HK.out | apply Kept.alloc | apply Kept.drewN | apply Kept.drew) | exact HK.out)).1) hk)))); (case aO => exact (by (with_reducible repeat (first | apply Kd.R_alloc | apply Kd.R_drewN | apply Kd.R_drew)); exact HO_0.out)); (case aS => exact (below_size (by repeat (first | (with_reducible first | exact HB.out | apply below_alloc | apply pw_below_drewN | apply below_drew1) | exact HB.out)))); (case aL => have := LMc6.out; omega); intro v155 w7 ho hb hg hat; rw [← Ny154.out] at ho; have n0_ := Aside0.mk (hb); have n1_ := Aside0.mk (Kept.of_grown (S := (fun k_ => P0_ k_)) hg (by repeat (first | (with_reducible first | exact HK.out | apply Kept.alloc | apply Kept.drewN | apply Kept.drew) | exact HK.out)) (fun k_ e_ => (HO_0.out.1 k_ e_))); have n2_ := Aside0.mk (ho); clear HB; clear HK; clear HO_0; have HB := n0_; have HK := n1_; have HO156 := n2_; clear n0_ n1_ n2_; clear ho hb hg hat))
          go_ret
          exact ⟨_, by first | rfl | (simp [errW_none, errW_some] <;> rfl) | (simp [*, errW_none, errW_some] <;> rfl), by (with_reducible repeat (first | apply Kd.R_alloc | apply Kd.R_drewN | apply Kd.R_drew)); exact HO156.out, by repeat (first | (with_reducible first | exact HB.out | apply below_alloc | apply pw_below_drewN | apply below_drew1) | exact HB.out), by repeat (first | (with_reducible first | exact HK.out | apply Kept.alloc | apply Kept.drewN | apply Kept.drew) | exact HK.out)⟩
        · rw [if_neg c6] at H
          exact absurd H (by simp)

/-! ### estreatref01_Same: function 25 -/
def estreatref01_Same.l0 : Nat → List Int → List Int → Int → Option (Bool)
  | 0, _, _, _ => none
  | k + 1, x0, x1, x5 => if x5 < (x0.length : Int) then (if 0 ≤ x5 then (if x5 < (x1.length : Int) then (if (rd x0 x5) = (rd x1 x5) then (estreatref01_Same.l0 k x0 x1 (wrap64 (x5 + 1))) else (some false)) else (none)) else (none)) else (some true)
def estreatref01_Same.f (k : Nat) (l0 : List Int) (l1 : List Int) : Option (Bool) := if (l0.length : Int) = (l1.length : Int) then (estreatref01_Same.l0 k l0 l1 0) else (some false)
theorem estreatref01_Same.mono_l : ∀ k, (∀ y0 y1 y2, LeO (estreatref01_Same.l0 k y0 y1 y2) (estreatref01_Same.l0 (k + 1) y0 y1 y2))
  | 0 => fun _ _ _ r h => by simp [estreatref01_Same.l0] at h
  | k + 1 => by
    have ih0 := estreatref01_Same.mono_l k
    · intro y0 y1 y2
      unfold estreatref01_Same.l0
      repeat' first
      | (with_reducible exact ih0 _ _ _)
      | (with_reducible exact LeO.refl _)
      | (with_reducible exact LeO.none _)
      | (with_reducible refine LeO.ite ?_ ?_)
      | (with_reducible refine LeO.bind ?_ (fun _ => ?_))
      | exact ih0 _ _ _
      | exact LeO.none _
      | refine LeO.ite ?_ ?_
      | refine LeO.bind ?_ (fun _ => ?_)
theorem estreatref01_Same.mono : ∀ a0 a1 k, LeO (estreatref01_Same.f k a0 a1) (estreatref01_Same.f (k + 1) a0 a1) := by
  intro a0 a1 k
  have ih0 := estreatref01_Same.mono_l k
  unfold estreatref01_Same.f
  repeat' first
      | (with_reducible exact ih0 _ _ _)
      | (with_reducible exact LeO.refl _)
      | (with_reducible exact LeO.none _)
      | (with_reducible refine LeO.ite ?_ ?_)
      | (with_reducible refine LeO.bind ?_ (fun _ => ?_))
      | exact ih0 _ _ _
      | exact LeO.none _
      | refine LeO.ite ?_ ?_
      | refine LeO.bind ?_ (fun _ => ?_)
set_option maxHeartbeats 8000000 in
set_option maxRecDepth 100000 in
theorem estreatref01_Same.calls (k : Nat) (A0 : Option Addr) (c0 : Nat) (l0 : List Int) (A1 : Option Addr) (c1 : Nat) (l1 : List Int) (r : Bool) (w : World) (hr0 : Kd.C (Kd.int .u8) w A0 l0.length l0) (hc0 : l0.length ≤ c0) (hr1 : Kd.C (Kd.int .u8) w A1 l1.length l1) (hc1 : l1.length ≤ c1) (h : estreatref01_Same.f k l0 l1 = some r) :
    Calls Tryd.prog 25 #[.slice A0 l0.length c0, .slice A1 l1.length c1] w fun e w' => e = .returned (.bool r) ∧ Drawn0 w w' := by
  have HR0 := Aside0.mk hr0
  have HC0 := Aside0.mk hc0
  clear hr0 hc0
  have HR1 := Aside0.mk hr1
  have HC1 := Aside0.mk hc1
  clear hr1 hc1
  have H : (if (l0.length : Int) = (l1.length : Int) then (estreatref01_Same.l0 k l0 l1 0) else (some false)) = some r := h
  clear h
  by_cases c3 : (l0.length : Int) = (l1.length : Int)
  · rw [if_pos c3] at H
    have c3b0 : ((l0.length : Int) == (l1.length : Int)) = true := beq_iff_eq.mpr c3
    have c3b1 : ((l0.length : Int) != (l1.length : Int)) = false := bne_eq_false_iff_eq.mpr c3
    have c3b2 : (l0.length == l1.length) = true := by first | simpa using c3 | (simp at c3 ⊢; omega)
    clear c3
    have H' := Aside0.mk H
    clear H
    go_enter Tryd.func25, Tryd.ntmps25
    go_wp2
    repeat (go_quiet (fail); try go_wp2)
    go_loopg [5] k (fun kq v5 w' => ∃ (x5_1 : Int), v5 = .int .i64 x5_1 ∧ Aside0 (estreatref01_Same.l0 kq l0 l1 x5_1 = some r) ∧ Aside0 (kq ≤ k) ∧ Drawn0 w w')
    case atStart => exact ⟨(0), (by first | rfl | (simp; done) | (simp [*]; done)), H', ⟨Nat.le_refl _⟩, by repeat (first | exact Drawn0.refl _ | apply Drawn0.step)⟩
    case round =>
      clear H'
      try clear c1
      try clear c2
      try clear p2
      try clear c3
      try clear c3b0
      try clear c3b1
      try clear c3b2
      obtain ⟨x5_1, rfl, HA, HK1, ⟨m1, rfl⟩⟩ := hrel
      cases gk with
      | zero => exact absurd HA.out (by simp [estreatref01_Same.l0])
      | succ k1 =>
        have H := HA.out
        clear HA
        simp only [estreatref01_Same.l0] at H
        by_cases c4 : x5_1 < (l0.length : Int)
        · rw [if_pos c4] at H
          have c4b0 : decide (x5_1 < (l0.length : Int)) = true := decide_eq_true c4
          clear c4
          by_cases c5 : 0 ≤ x5_1
          · rw [if_pos c5] at H
            have c5b0 : decide (0 ≤ x5_1) = true := decide_eq_true c5
            clear c5
            by_cases c6 : x5_1 < (l1.length : Int)
            · rw [if_pos c6] at H
              have c6b0 : decide (x5_1 < (l1.length : Int)) = true := decide_eq_true c6
              clear c6
              by_cases c7 : (rd l0 x5_1) = (rd l1 x5_1)
              · rw [if_pos c7] at H
                have c7b0 : ((rd l0 x5_1) == (rd l1 x5_1)) = true := beq_iff_eq.mpr c7
                have c7b1 : ((rd l0 x5_1) != (rd l1 x5_1)) = false := bne_eq_false_iff_eq.mpr c7
                clear c7
                have H' := Aside0.mk H
                clear H
                have p157 : 0 ≤ (x5_1 : Int) := of_decide_eq_true (by first | (with_reducible assumption) | assumption)
                have q157 : x5_1 < (l0.length : Int) := of_decide_eq_true (by first | (with_reducible assumption) | assumption)
                obtain ⟨ad157, e157, hx157_0⟩ := Kd.at_int HR0.out x5_1 p157 q157
                cases e157
                replace p157 := eq_true p157
                replace q157 := eq_true q157
                have p158 : 0 ≤ (x5_1 : Int) := of_decide_eq_true (by first | (with_reducible assumption) | assumption)
                have q158 : x5_1 < (l1.length : Int) := of_decide_eq_true (by first | (with_reducible assumption) | assumption)
                obtain ⟨ad158, e158, hx158_0⟩ := Kd.at_int HR1.out x5_1 p158 q158
                cases e158
                replace p158 := eq_true p158
                replace q158 := eq_true q158
                go_wp2
                repeat (go_quiet (fail); try go_wp2)
                go_roundg k1
                case measure => have := HK1.out; omega
                case rel => exact ⟨(wrap64 (x5_1 + 1)), (by first | rfl | (simp; done) | (simp [*]; done)), H', ⟨by have := HK1.out; omega⟩, by repeat (first | exact Drawn0.refl _ | apply Drawn0.step)⟩
              · rw [if_neg c7] at H
                have c7b0 : ((rd l0 x5_1) == (rd l1 x5_1)) = false := beq_eq_false_iff_ne.mpr c7
                have c7b1 : ((rd l0 x5_1) != (rd l1 x5_1)) = true := bne_iff_ne.mpr c7
                obtain rfl := Option.some.inj H
                have p157 : 0 ≤ (x5_1 : Int) := of_decide_eq_true (by first | (with_reducible assumption) | assumption)
                have q157 : x5_1 < (l0.length : Int) := of_decide_eq_true (by first | (with_reducible assumption) | assumption)
                obtain ⟨ad157, e157, hx157_0⟩ := Kd.at_int HR0.out x5_1 p157 q157
                cases e157
                replace p157 := eq_true p157
                replace q157 := eq_true q157
                have p158 : 0 ≤ (x5_1 : Int) := of_decide_eq_true (by first | (with_reducible assumption) | assumption)
                have q158 : x5_1 < (l1.length : Int) := of_decide_eq_true (by first | (with_reducible assumption) | assumption)
                obtain ⟨ad158, e158, hx158_0⟩ := Kd.at_int HR1.out x5_1 p158 q158
                cases e158
                replace p158 := eq_true p158
                replace q158 := eq_true q158
                go_wp2
                repeat (go_quiet (fail); try go_wp2)
                go_ret
                exact ⟨by first | rfl | (simp; done) | (simp [*]; done), by repeat (first | exact Drawn0.refl _ | apply Drawn0.step)⟩
            · rw [if_neg c6] at H
              exact absurd H (by simp)
          · rw [if_neg c5] at H
            exact absurd H (by simp)
        · rw [if_neg c4] at H
          have c4b0 : decide (x5_1 < (l0.length : Int)) = false := decide_eq_false c4
          clear c4
          obtain rfl := Option.some.inj H
          go_wp2
          repeat (go_quiet (fail); try go_wp2)
          go_ret
          exact ⟨by first | rfl | (simp; done) | (simp [*]; done), by repeat (first | exact Drawn0.refl _ | apply Drawn0.step)⟩
  · rw [if_neg c3] at H
    have c3b0 : ((l0.length : Int) == (l1.length : Int)) = false := beq_eq_false_iff_ne.mpr c3
    have c3b1 : ((l0.length : Int) != (l1.length : Int)) = true := bne_iff_ne.mpr c3
    have c3b2 : (l0.length == l1.length) = false := by first | simpa using c3 | (simp at c3 ⊢; omega)
    obtain rfl := Option.some.inj H
    go_enter Tryd.func25, Tryd.ntmps25
    go_wp2
    repeat (go_quiet (fail); try go_wp2)
    go_ret
    exact ⟨by first | rfl | (simp; done) | (simp [*]; done), by repeat (first | exact Drawn0.refl _ | apply Drawn0.step)⟩

/-! ### num_Zig: function 27 -/
def num_Zig.f (a0 : Int) : Option (Int) := some (Go.bits .xor .u64 (IntKind.u64.wrap ((IntKind.u64.wrap (a0)) * 2)) (IntKind.u64.wrap (a0 / 9223372036854775808)))
set_option maxHeartbeats 8000000 in
set_option maxRecDepth 100000 in
theorem num_Zig.calls (a0 : Int) (r : Int) (w : World) (h : num_Zig.f a0 = some r) :
    Calls Tryd.prog 27 #[.int .i64 a0] w fun e w' => e = .returned (.int .u64 r) ∧ Drawn0 w w' := by
  have H : (some (Go.bits .xor .u64 (IntKind.u64.wrap ((IntKind.u64.wrap (a0)) * 2)) (IntKind.u64.wrap (a0 / 9223372036854775808)))) = some r := h
  clear h
  obtain rfl := Option.some.inj H
  go_enter Tryd.func27, Tryd.ntmps27
  go_wp2
  go_ret
  exact ⟨by first | rfl | (simp; done) | (simp [*]; done), by repeat (first | exact Drawn0.refl _ | apply Drawn0.step)⟩

/-! ### estreatlaw01_awake: function 22 -/
def estreatlaw01_awake.f (k : Nat)  : Option (Bool) := (num_PutVar.f k ([] : List Int) 300).bind fun t159 => ((estreatref01_Same.f k t159 (([172, 2] : List Int))).bind fun t165 => (if t165 = true then ((num_Zig.f (-1)).bind fun t166 => (some (t166 == 1))) else (some false)))
theorem estreatlaw01_awake.mono : ∀ k, LeO (estreatlaw01_awake.f k ) (estreatlaw01_awake.f (k + 1) ) := by
  intro  k
  unfold estreatlaw01_awake.f
  repeat' first
      | (with_reducible exact estreatref01_Same.mono _ _ _)
      | (with_reducible exact num_PutVar.mono _ _ _)
      | (with_reducible exact LeO.refl _)
      | (with_reducible exact LeO.none _)
      | (with_reducible refine LeO.ite ?_ ?_)
      | (with_reducible refine LeO.bind ?_ (fun _ => ?_))
      | exact estreatref01_Same.mono _ _ _
      | exact num_PutVar.mono _ _ _
      | exact LeO.none _
      | refine LeO.ite ?_ ?_
      | refine LeO.bind ?_ (fun _ => ?_)
set_option maxHeartbeats 8000000 in
set_option maxRecDepth 100000 in
theorem estreatlaw01_awake.calls (k : Nat)  (r : Bool) (w : World) (h : estreatlaw01_awake.f k  = some r) :
    Calls Tryd.prog 22 #[] w fun e w' => e = .returned (.bool r) ∧ Below w.heap.size w w' := by
  have HB := Aside0.mk (Below.refl w.heap.size w)
  have H : ((num_PutVar.f k ([] : List Int) 300).bind fun t159 => ((estreatref01_Same.f k t159 (([172, 2] : List Int))).bind fun t165 => (if t165 = true then ((num_Zig.f (-1)).bind fun t166 => (some (t166 == 1))) else (some false)))) = some r := h
  clear h
  replace H := Option.bind_eq_some_iff.mp H
  obtain ⟨t159, A10, H⟩ := H
  replace H : ((estreatref01_Same.f k t159 (([172, 2] : List Int))).bind fun t165 => (if t165 = true then ((num_Zig.f (-1)).bind fun t166 => (some (t166 == 1))) else (some false))) = some r := H
  have A1 := Aside0.mk A10
  clear A10
  obtain ⟨y162, hy162⟩ : ∃ y_ : List Int, y_ = (([172, 2] : List Int)) := ⟨_, rfl⟩
  replace H : ((estreatref01_Same.f k t159 y162).bind fun t165 => (if t165 = true then ((num_Zig.f (-1)).bind fun t166 => (some (t166 == 1))) else (some false))) = some r := by first | (rw [hy162]; with_reducible exact H) | (have H2_ := (Option.bind_some _ _).symm.trans H; rw [hy162]; with_reducible exact H2_) | (have H2_ := (Option.bind_some _ _).symm.trans H; with_reducible exact H2_) | with_reducible exact H | (rw [hy162]; exact H) | exact H
  have Ny162 := Aside0.mk hy162
  clear hy162
  replace H := Option.bind_eq_some_iff.mp H
  obtain ⟨t165, A20, H⟩ := H
  replace H : (if t165 = true then ((num_Zig.f (-1)).bind fun t166 => (some (t166 == 1))) else (some false)) = some r := H
  have A2 := Aside0.mk A20
  clear A20
  by_cases c3 : t165 = true
  · subst c3
    have H1 : ((num_Zig.f (-1)).bind fun t166 => (some (t166 == 1))) = some r := by rw [if_pos rfl] at H; exact H
    clear H
    have H := H1
    clear H1
    replace H := Option.bind_eq_some_iff.mp H
    obtain ⟨t166, A40, H⟩ := H
    replace H : (some (t166 == 1)) = some r := H
    have A4 := Aside0.mk A40
    clear A40
    obtain rfl := Option.some.inj H
    go_enter Tryd.func22, Tryd.ntmps22
    go_wp2_with (first | ((with_reducible refine gate_callee (f := 11) rfl ?_); refine goesL_ (some 1) rfl rfl Tryd.func11 (by kernel_rfl) rfl #[.slice none 0 0, .int .u64 300] rfl (by (try simp only [List.map_toArray, List.map_cons, List.map_nil]); first | done | rfl | (simp only [List.length_drop, List.length_take]; rfl)) ?_; (refine (num_PutVar.calls k (fun k_ => some k_ = (.slice none 0 0 : Value).ownBlock) (.slice none 0 0) ([] : List Int) 300 t159 w _ ?side1 ?side2 A1.out).mono ?_); (case side1 => repeat (first | (with_reducible first | exact HB.out | apply below_alloc | apply pw_below_drewN | apply below_drew1) | exact HB.out)); (case side2 => exact Kd.R_nil _ _ _ _ _); rintro e w5 ⟨v160, rfl, ho0, hb, hkp⟩; refine ⟨_, rfl, ?_⟩; have n0_ := Aside0.mk (Kd.R_mono (ok' := fun k_ => True) ho0 (fun k_ hk_ => trivial)); have n1_ := Aside0.mk (hb); clear HB; have HO161 := n0_; have HB := n1_; clear n0_ n1_; (try clear hb); (try clear hkp); (try clear ho0)) | ((with_reducible refine gate_dst (N := 2) rfl ?_); refine Kd.R_lit (Kd.int .u8) _ 5 ?hg (N := 2) ?hd (xs := ([172, 2] : List Int)) (inner := [.int .u8 172, .int .u8 2]) (ok := fun _ => True) (okp := fun _ => True) ?hr ?hp (fun _ hk => hk) trivial (Below.refl _ _) (Nat.le_refl _) (by simp) ?_; (case hd => rfl); (case hg => rfl); (case hr => first | (go_simp; done) | (go_simp; rfl)); (case hp => exact (Reps.one (show Kd.M (Kd.int .u8) _ _ _ 172 [.int .u8 172] from rfl) (Reps.one (show Kd.M (Kd.int .u8) _ _ _ 2 [.int .u8 2] from rfl) (Reps.none _ _)))); intro v163 w6 ho7 hb hg_ hnew_; clear hg_ hnew_; (first | rw [← Ny162.out] at ho7 | (simp only [Int.reduceToNat] at ho7; rw [← Ny162.out] at ho7)); have n0_ := Aside0.mk (Kd.R_elder' (by (with_reducible repeat (first | apply Kd.R_alloc | apply Kd.R_drewN | apply Kd.R_drew)); exact HO161.out) (Kd.R_base ho7) hb); have n1_ := Aside0.mk (Kd.R_lower (Kd.R_new' ho7 (Kd.R_lt (by (with_reducible repeat (first | apply Kd.R_alloc | apply Kd.R_drewN | apply Kd.R_drew)); exact HO161.out))) (below_size (by repeat (first | (with_reducible first | exact HB.out | apply below_alloc | apply pw_below_drewN | apply below_drew1) | exact HB.out)))); have n2_ := Aside0.mk (below_step (by repeat (first | (with_reducible first | exact HB.out | apply below_alloc | apply pw_below_drewN | apply below_drew1) | exact HB.out)) hb); clear HO161; clear HB; have HO161 := n0_; have HO164 := n1_; have HB := n2_; clear n0_ n1_ n2_; clear hb ho7; obtain ⟨Ao8, co8, eo8⟩ := Kd.R_slice HO161.out; subst eo8; obtain ⟨Ao9, co9, eo9⟩ := Kd.R_slice HO164.out; subst eo9) | ((with_reducible refine gate_callee (f := 25) rfl ?_); refine goesL_ (some 3) rfl rfl Tryd.func25 (by kernel_rfl) rfl #[.slice Ao8 t159.length co8, .slice Ao9 y162.length co9] rfl (by (try simp only [List.map_toArray, List.map_cons, List.map_nil]); first | done | rfl | (simp only [List.length_drop, List.length_take]; rfl)) ?_; (with_reducible refine (estreatref01_Same.calls k _ _ t159 _ _ y162 true _ ?side1 ?side2 ?side3 ?side4 A2.out).mono ?_); (case side1 => repeat (first | exact (Kd.R_reads' HO161.out).2.2 | (with_reducible refine Kd.C_alloc ?_ _) | (with_reducible refine Kd.C_drewN ?_ _) | (with_reducible refine Kd.C_drew ?_))); (case side2 => exact (Kd.R_reads' HO161.out).2.1); (case side3 => repeat (first | exact (Kd.R_reads' HO164.out).2.2 | (with_reducible refine Kd.C_alloc ?_ _) | (with_reducible refine Kd.C_drewN ?_ _) | (with_reducible refine Kd.C_drew ?_))); (case side4 => exact (Kd.R_reads' HO164.out).2.1); rintro e w' ⟨rfl, ⟨nd, rfl⟩⟩; refine ⟨_, rfl, ?_⟩) | (go_at_call 27; (with_reducible refine (num_Zig.calls (-1) t166 _ A4.out).mono ?_); rintro e w' ⟨rfl, ⟨nd, rfl⟩⟩))
    go_ret
    exact ⟨by first | rfl | (simp [errW_none, errW_some] <;> rfl) | (simp [*, errW_none, errW_some] <;> rfl), by repeat (first | (with_reducible first | exact HB.out | apply below_alloc | apply pw_below_drewN | apply below_drew1) | exact HB.out)⟩
  · replace c3 := Bool.eq_false_iff.mpr c3
    subst c3
    have H1 : (some false) = some r := by rw [if_neg (show ¬ (false = true) by decide)] at H; exact H
    clear H
    have H := H1
    clear H1
    obtain rfl := Option.some.inj H
    go_enter Tryd.func22, Tryd.ntmps22
    go_wp2_with (first | ((with_reducible refine gate_callee (f := 11) rfl ?_); refine goesL_ (some 1) rfl rfl Tryd.func11 (by kernel_rfl) rfl #[.slice none 0 0, .int .u64 300] rfl (by (try simp only [List.map_toArray, List.map_cons, List.map_nil]); first | done | rfl | (simp only [List.length_drop, List.length_take]; rfl)) ?_; (refine (num_PutVar.calls k (fun k_ => some k_ = (.slice none 0 0 : Value).ownBlock) (.slice none 0 0) ([] : List Int) 300 t159 w _ ?side1 ?side2 A1.out).mono ?_); (case side1 => repeat (first | (with_reducible first | exact HB.out | apply below_alloc | apply pw_below_drewN | apply below_drew1) | exact HB.out)); (case side2 => exact Kd.R_nil _ _ _ _ _); rintro e w10 ⟨v160, rfl, ho0, hb, hkp⟩; refine ⟨_, rfl, ?_⟩; have n0_ := Aside0.mk (Kd.R_mono (ok' := fun k_ => True) ho0 (fun k_ hk_ => trivial)); have n1_ := Aside0.mk (hb); clear HB; have HO161 := n0_; have HB := n1_; clear n0_ n1_; (try clear hb); (try clear hkp); (try clear ho0)) | ((with_reducible refine gate_dst (N := 2) rfl ?_); refine Kd.R_lit (Kd.int .u8) _ 5 ?hg (N := 2) ?hd (xs := ([172, 2] : List Int)) (inner := [.int .u8 172, .int .u8 2]) (ok := fun _ => True) (okp := fun _ => True) ?hr ?hp (fun _ hk => hk) trivial (Below.refl _ _) (Nat.le_refl _) (by simp) ?_; (case hd => rfl); (case hg => rfl); (case hr => first | (go_simp; done) | (go_simp; rfl)); (case hp => exact (Reps.one (show Kd.M (Kd.int .u8) _ _ _ 172 [.int .u8 172] from rfl) (Reps.one (show Kd.M (Kd.int .u8) _ _ _ 2 [.int .u8 2] from rfl) (Reps.none _ _)))); intro v163 w11 ho12 hb hg_ hnew_; clear hg_ hnew_; (first | rw [← Ny162.out] at ho12 | (simp only [Int.reduceToNat] at ho12; rw [← Ny162.out] at ho12)); have n0_ := Aside0.mk (Kd.R_elder' (by (with_reducible repeat (first | apply Kd.R_alloc | apply Kd.R_drewN | apply Kd.R_drew)); exact HO161.out) (Kd.R_base ho12) hb); have n1_ := Aside0.mk (Kd.R_lower (Kd.R_new' ho12 (Kd.R_lt (by (with_reducible repeat (first | apply Kd.R_alloc | apply Kd.R_drewN | apply Kd.R_drew)); exact HO161.out))) (below_size (by repeat (first | (with_reducible first | exact HB.out | apply below_alloc | apply pw_below_drewN | apply below_drew1) | exact HB.out)))); have n2_ := Aside0.mk (below_step (by repeat (first | (with_reducible first | exact HB.out | apply below_alloc | apply pw_below_drewN | apply below_drew1) | exact HB.out)) hb); clear HO161; clear HB; have HO161 := n0_; have HO164 := n1_; have HB := n2_; clear n0_ n1_ n2_; clear hb ho12; obtain ⟨Ao13, co13, eo13⟩ := Kd.R_slice HO161.out; subst eo13; obtain ⟨Ao14, co14, eo14⟩ := Kd.R_slice HO164.out; subst eo14) | ((with_reducible refine gate_callee (f := 25) rfl ?_); refine goesL_ (some 3) rfl rfl Tryd.func25 (by kernel_rfl) rfl #[.slice Ao13 t159.length co13, .slice Ao14 y162.length co14] rfl (by (try simp only [List.map_toArray, List.map_cons, List.map_nil]); first | done | rfl | (simp only [List.length_drop, List.length_take]; rfl)) ?_; (with_reducible refine (estreatref01_Same.calls k _ _ t159 _ _ y162 false _ ?side1 ?side2 ?side3 ?side4 A2.out).mono ?_); (case side1 => repeat (first | exact (Kd.R_reads' HO161.out).2.2 | (with_reducible refine Kd.C_alloc ?_ _) | (with_reducible refine Kd.C_drewN ?_ _) | (with_reducible refine Kd.C_drew ?_))); (case side2 => exact (Kd.R_reads' HO161.out).2.1); (case side3 => repeat (first | exact (Kd.R_reads' HO164.out).2.2 | (with_reducible refine Kd.C_alloc ?_ _) | (with_reducible refine Kd.C_drewN ?_ _) | (with_reducible refine Kd.C_drew ?_))); (case side4 => exact (Kd.R_reads' HO164.out).2.1); rintro e w' ⟨rfl, ⟨nd, rfl⟩⟩; refine ⟨_, rfl, ?_⟩))
    go_ret
    exact ⟨by first | rfl | (simp [errW_none, errW_some] <;> rfl) | (simp [*, errW_none, errW_some] <;> rfl), by repeat (first | (with_reducible first | exact HB.out | apply below_alloc | apply pw_below_drewN | apply below_drew1) | exact HB.out)⟩

/-- A state of type 47 at block g of W; what its slices lead to came in by w0. -/
def IsS47 (w0 W : World) (g : Nat) (f0 : List Int) (f1 : Int) (f2 : Int) (f3 : Int) : Prop := ∃ A0 c0, W.heap[g]? = some (.cells #[.slice A0 f0.length c0, .int .i64 f1, .int .i64 f2, .int .i64 f3] 47 (0, 0)) ∧ w0.heap.size ≤ g ∧ Kd.C (Kd.int .u8) w0 A0 f0.length f0 ∧ f0.length ≤ c0
theorem IsS47.grown {w0 W : World} {g : Nat} {f0 : List Int} {f1 : Int} {f2 : Int} {f3 : Int} {W1 : World} {row : Option Nat} (h : IsS47 w0 W g f0 f1 f2 f3) (hw : W.grownBy W1 row) (hne : some g ≠ row) : IsS47 w0 W1 g f0 f1 f2 f3 := by
  obtain ⟨A0, c0, hb, hg, hr0, hl0⟩ := h
  exact ⟨A0, c0, blk_grown hb hw hne, hg, hr0, hl0⟩
theorem IsS47.own_neN {w0 W : World} {g : Nat} {f0 : List Int} {f1 : Int} {f2 : Int} {f3 : Int} {α : Type} {d : Kd α} {e : Nat} {base : Nat} {ok : Nat → Prop} {v : Value} {xs : List α} (h : IsS47 w0 W g f0 f1 f2 f3) (ho : Kd.N d e W base ok v xs) (ht : e ≠ 47) : some g ≠ v.ownBlock := by
  obtain ⟨A0, c0, hb, hg, hr0, hl0⟩ := h
  exact Kd.N_ne ho hb ht
theorem IsS47.fresh {w0 W : World} {g : Nat} {f0 : List Int} {f1 : Int} {f2 : Int} {f3 : Int} (h : IsS47 w0 W g f0 f1 f2 f3) : ∀ k, W.heap.size ≤ k → k ≠ g := by
  obtain ⟨A0, c0, hb, hg, hr0, hl0⟩ := h
  exact Kd.freshB hb
theorem IsS47.kept {w0 W : World} {g : Nat} {f0 : List Int} {f1 : Int} {f2 : Int} {f3 : Int} {W1 : World} {S : Nat → Prop} (h : IsS47 w0 W g f0 f1 f2 f3) (hk : Kept W W1 S) (hne : ¬ S g) : IsS47 w0 W1 g f0 f1 f2 f3 := by
  obtain ⟨A0, c0, hb, hg, hr0, hl0⟩ := h
  exact ⟨A0, c0, blk_kept hb hk hne, hg, hr0, hl0⟩
theorem IsS47.below {w0 W : World} {g : Nat} {f0 : List Int} {f1 : Int} {f2 : Int} {f3 : Int} {W1 : World} (h : IsS47 w0 W g f0 f1 f2 f3) (hw : Below W.heap.size W W1) : IsS47 w0 W1 g f0 f1 f2 f3 := h.grown (grown_of_below hw none) (by simp)
theorem IsS47.alloc {w0 W : World} {g : Nat} {f0 : List Int} {f1 : Int} {f2 : Int} {f3 : Int} (h : IsS47 w0 W g f0 f1 f2 f3) (o : Obj) : IsS47 w0 (W.alloc o) g f0 f1 f2 f3 := h.below (below_alloc (Below.refl _ _) o)
theorem IsS47.drewN {w0 W : World} {g : Nat} {f0 : List Int} {f1 : Int} {f2 : Int} {f3 : Int} (h : IsS47 w0 W g f0 f1 f2 f3) (m : Nat) : IsS47 w0 (W.drewN m) g f0 f1 f2 f3 := h
theorem IsS47.drew {w0 W : World} {g : Nat} {f0 : List Int} {f1 : Int} {f2 : Int} {f3 : Int} (h : IsS47 w0 W g f0 f1 f2 f3) : IsS47 w0 W.drew g f0 f1 f2 f3 := h
theorem IsS47.at_ {w0 W : World} {g : Nat} {f0 : List Int} {f1 : Int} {f2 : Int} {f3 : Int} {w' : World} {m : Nat} (hq : W.drewN m = w') (h : IsS47 w0 W g f0 f1 f2 f3) : IsS47 w0 w' g f0 f1 f2 f3 := by subst hq; exact IsS47.drewN h m
theorem IsS47.apart {w0 W : World} {g : Nat} {f0 : List Int} {f1 : Int} {f2 : Int} {f3 : Int} {α : Type} {d : Kd α} {e : Nat} {base : Nat} {ok : Nat → Prop} {v : Value} {xs : List α} (h : IsS47 w0 W g f0 f1 f2 f3) (ho : d.R e W base ok v xs) (ht : ∀ q, q ∈ e :: d.E → q ≠ 47) : d.R e W base (fun k => ok k ∧ k ≠ g) v xs := by
  obtain ⟨A0, c0, hb, hg, hr0, hl0⟩ := h
  exact Kd.R_types ho hb ht
theorem IsS47.own_ne {w0 W : World} {g : Nat} {f0 : List Int} {f1 : Int} {f2 : Int} {f3 : Int} {α : Type} {d : Kd α} {e : Nat} {base : Nat} {ok : Nat → Prop} {v : Value} {xs : List α} (h : IsS47 w0 W g f0 f1 f2 f3) (ho : d.R e W base ok v xs) (ht : e ≠ 47) : some g ≠ v.ownBlock := by
  obtain ⟨A0, c0, hb, hg, hr0, hl0⟩ := h
  exact Kd.R_ne ho hb ht
theorem IsS47.apartQ {w0 W : World} {g : Nat} {f0 : List Int} {f1 : Int} {f2 : Int} {f3 : Int} {α : Type} {d : Kd α} {e : Nat} {base : Nat} {ok : Nat → Prop} {v : Value} {xs : List α} (h : IsS47 w0 W g f0 f1 f2 f3) (ho : d.Q e W base ok v xs) (ht : ∀ q, q ∈ e :: d.E → q ≠ 47) : d.Q e W base (fun k => ok k ∧ k ≠ g) v xs := by
  obtain ⟨A0, c0, hb, hg, hr0, hl0⟩ := h
  exact Kd.Q_types ho hb ht
theorem IsS47.own_neQ {w0 W : World} {g : Nat} {f0 : List Int} {f1 : Int} {f2 : Int} {f3 : Int} {α : Type} {d : Kd α} {e : Nat} {base : Nat} {ok : Nat → Prop} {v : Value} {xs : List α} (h : IsS47 w0 W g f0 f1 f2 f3) (ho : d.Q e W base ok v xs) (ht : e ≠ 47) : some g ≠ v.ownBlock := by
  obtain ⟨A0, c0, hb, hg, hr0, hl0⟩ := h
  exact Kd.Q_ne ho hb ht
theorem IsS47.apartS {w0 W : World} {g : Nat} {f0 : List Int} {f1 : Int} {f2 : Int} {f3 : Int} {α : Type} {d : Kd α} {e : Nat} {base : Nat} {ok : Nat → Prop} {v : Value} {xs : List α} (h : IsS47 w0 W g f0 f1 f2 f3) (ho : d.S e W base ok v xs) (ht : ∀ q, q ∈ e :: d.E → q ≠ 47) : d.S e W base (fun k => ok k ∧ k ≠ g) v xs := by
  obtain ⟨A0, c0, hb, hg, hr0, hl0⟩ := h
  exact Kd.S_types ho hb ht
theorem IsS47.own_neS {w0 W : World} {g : Nat} {f0 : List Int} {f1 : Int} {f2 : Int} {f3 : Int} {α : Type} {d : Kd α} {e : Nat} {base : Nat} {ok : Nat → Prop} {v : Value} {xs : List α} (h : IsS47 w0 W g f0 f1 f2 f3) (ho : d.S e W base ok v xs) (ht : e ≠ 47) : some g ≠ v.ownBlock := by
  obtain ⟨A0, c0, hb, hg, hr0, hl0⟩ := h
  exact Kd.S_ne ho hb ht
theorem IsS47.lt {w0 W : World} {g : Nat} {f0 : List Int} {f1 : Int} {f2 : Int} {f3 : Int} (h : IsS47 w0 W g f0 f1 f2 f3) : g < W.heap.size := by
  obtain ⟨A0, c0, hb, hg, hr0, hl0⟩ := h
  exact blk_lt hb
theorem IsS47.ge {w0 W : World} {g : Nat} {f0 : List Int} {f1 : Int} {f2 : Int} {f3 : Int} (h : IsS47 w0 W g f0 f1 f2 f3) : w0.heap.size ≤ g := by
  obtain ⟨A0, c0, hb, hg, hr0, hl0⟩ := h
  exact hg
theorem IsS47.ne_blk {w0 W : World} {g : Nat} {f0 : List Int} {f1 : Int} {f2 : Int} {f3 : Int} {a : Nat} {cs : Array Value} {t : TypeId} {fr : Nat × Nat} (h : IsS47 w0 W g f0 f1 f2 f3) (hb2 : W.heap[a]? = some (.cells cs t fr)) (ht : t ≠ 47) : g ≠ a := by
  obtain ⟨A0, c0, hb, hg, hr0, hl0⟩ := h
  rintro rfl
  rw [hb] at hb2
  injection hb2 with hb2
  injection hb2 with _ ht2
  exact ht ht2.symm
theorem IsS47.far {w0 W : World} {g : Nat} {f0 : List Int} {f1 : Int} {f2 : Int} {f3 : Int} {p : Addr} (h : IsS47 w0 W g f0 f1 f2 f3) (hne : g ≠ p.block) (u : Value) : IsS47 w0 (W.setCell p u) g f0 f1 f2 f3 := by
  obtain ⟨A0, c0, hb, hg, hr0, hl0⟩ := h
  exact ⟨A0, c0, blk_far hb hne u, hg, hr0, hl0⟩
theorem cellS47_0 {W : World} {g : Nat} {A0 : Option Addr} {c0 : Nat} {f0 : List Int} {f1 : Int} {f2 : Int} {f3 : Int} (h : W.heap[g]? = some (.cells #[.slice A0 f0.length c0, .int .i64 f1, .int .i64 f2, .int .i64 f3] 47 (0, 0))) : W.cell? ⟨g, 0, none⟩ = some (.slice A0 f0.length c0) := (blk_cell h 0).trans rfl
theorem cellS47_1 {W : World} {g : Nat} {A0 : Option Addr} {c0 : Nat} {f0 : List Int} {f1 : Int} {f2 : Int} {f3 : Int} (h : W.heap[g]? = some (.cells #[.slice A0 f0.length c0, .int .i64 f1, .int .i64 f2, .int .i64 f3] 47 (0, 0))) : W.cell? ⟨g, 1, none⟩ = some (.int .i64 f1) := (blk_cell h 1).trans rfl
theorem IsS47.set_1 {w0 W : World} {g : Nat} {f0 : List Int} {f1 : Int} {f2 : Int} {f3 : Int} (h : IsS47 w0 W g f0 f1 f2 f3) (x : Int) : IsS47 w0 (W.setCell ⟨g, 1, none⟩ (.int .i64 x)) g f0 x f2 f3 := by
  obtain ⟨A0, c0, hb, hg, hr0, hl0⟩ := h
  exact ⟨A0, c0, by simpa using blk_set hb 1 (.int .i64 x), hg, hr0, hl0⟩
theorem cellS47_2 {W : World} {g : Nat} {A0 : Option Addr} {c0 : Nat} {f0 : List Int} {f1 : Int} {f2 : Int} {f3 : Int} (h : W.heap[g]? = some (.cells #[.slice A0 f0.length c0, .int .i64 f1, .int .i64 f2, .int .i64 f3] 47 (0, 0))) : W.cell? ⟨g, 2, none⟩ = some (.int .i64 f2) := (blk_cell h 2).trans rfl
theorem IsS47.set_2 {w0 W : World} {g : Nat} {f0 : List Int} {f1 : Int} {f2 : Int} {f3 : Int} (h : IsS47 w0 W g f0 f1 f2 f3) (x : Int) : IsS47 w0 (W.setCell ⟨g, 2, none⟩ (.int .i64 x)) g f0 f1 x f3 := by
  obtain ⟨A0, c0, hb, hg, hr0, hl0⟩ := h
  exact ⟨A0, c0, by simpa using blk_set hb 2 (.int .i64 x), hg, hr0, hl0⟩
theorem cellS47_3 {W : World} {g : Nat} {A0 : Option Addr} {c0 : Nat} {f0 : List Int} {f1 : Int} {f2 : Int} {f3 : Int} (h : W.heap[g]? = some (.cells #[.slice A0 f0.length c0, .int .i64 f1, .int .i64 f2, .int .i64 f3] 47 (0, 0))) : W.cell? ⟨g, 3, none⟩ = some (.int .i64 f3) := (blk_cell h 3).trans rfl
theorem IsS47.set_3 {w0 W : World} {g : Nat} {f0 : List Int} {f1 : Int} {f2 : Int} {f3 : Int} (h : IsS47 w0 W g f0 f1 f2 f3) (x : Int) : IsS47 w0 (W.setCell ⟨g, 3, none⟩ (.int .i64 x)) g f0 f1 f2 x := by
  obtain ⟨A0, c0, hb, hg, hr0, hl0⟩ := h
  exact ⟨A0, c0, by simpa using blk_set hb 3 (.int .i64 x), hg, hr0, hl0⟩
theorem IsS47.new (w0 W : World) (A0 : Option Addr) (c0 : Nat) (f0 : List Int) (f1 : Int) (f2 : Int) (f3 : Int) (hB : Below w0.heap.size w0 W) (hr0 : Kd.C (Kd.int .u8) w0 A0 f0.length f0) (hl0 : f0.length ≤ c0) : IsS47 w0 (W.alloc (.cells #[.slice A0 f0.length c0, .int .i64 f1, .int .i64 f2, .int .i64 f3] 47)) W.heap.size f0 f1 f2 f3 := ⟨A0, c0, by simpa using heap_alloc_new W _, hB.size, hr0, hl0⟩

/-! ### estreatref01_Reader_Fail: function 32 -/
def estreatref01_Reader_Fail.f (s0_0 : List Int) (s0_1 : Int) (s0_2 : Int) (s0_3 : Int) (a1 : Int) : Option (Int × Int × Int) := if s0_2 = 0 then (if a1 = 0 then (some (s0_1, s0_2, s0_3)) else (some (s0_1, a1, s0_1))) else (some (s0_1, s0_2, s0_3))
set_option maxHeartbeats 8000000 in
set_option maxRecDepth 100000 in
theorem estreatref01_Reader_Fail.calls (g : Nat) (s0_0 : List Int) (s0_1 : Int) (s0_2 : Int) (s0_3 : Int) (a1 : Int) (r1 : Int) (r2 : Int) (r3 : Int) (w0 w : World) (hI : IsS47 w0 w g s0_0 s0_1 s0_2 s0_3) (hB : Below w0.heap.size w0 w) (h : estreatref01_Reader_Fail.f s0_0 s0_1 s0_2 s0_3 a1 = some (r1, r2, r3)) :
    Calls Tryd.prog 32 #[.pointer (some ⟨g, 0, none⟩), .int .i64 a1] w fun e w' => e = .returned (.tuple #[]) ∧ IsS47 w0 w' g s0_0 r1 r2 r3 ∧ Below w0.heap.size w0 w' ∧ KeepBut w w' g none := by
  have HI0 := Aside0.mk hI
  have HK := Aside0.mk (KeepBut.refl w g none)
  have HL := Aside0.mk hB.size
  clear hI
  have HW0 := Aside0.mk hB.size
  have HB := Aside0.mk hB
  clear hB
  have H : (if s0_2 = 0 then (if a1 = 0 then (some (s0_1, s0_2, s0_3)) else (some (s0_1, a1, s0_1))) else (some (s0_1, s0_2, s0_3))) = some (r1, r2, r3) := h
  clear h
  by_cases c3 : s0_2 = 0
  · rw [if_pos c3] at H
    have c3b0 : (s0_2 == 0) = true := beq_iff_eq.mpr c3
    have c3b1 : (s0_2 != 0) = false := bne_eq_false_iff_eq.mpr c3
    clear c3
    by_cases c4 : a1 = 0
    · rw [if_pos c4] at H
      have c4b0 : (a1 == 0) = true := beq_iff_eq.mpr c4
      have c4b1 : (a1 != 0) = false := bne_eq_false_iff_eq.mpr c4
      clear c4
      simp only [Option.some.injEq, Prod.mk.injEq] at H
      obtain ⟨rfl, rfl, rfl⟩ := H
      obtain ⟨ASz5_0, cSz5_0, HGz5, hgz5, HSz5_0⟩ := HI0.out
      have hcz5_0 := cellS47_0 HGz5
      have hcz5_1 := cellS47_1 HGz5
      have hcz5_2 := cellS47_2 HGz5
      have hcz5_3 := cellS47_3 HGz5
      have hfz5_1 := blk_frozen HGz5 1
      have hfz5_2 := blk_frozen HGz5 2
      have hfz5_3 := blk_frozen HGz5 3
      clear HGz5 hgz5
      go_enter Tryd.func32, Tryd.ntmps32
      go_wp2
      first | go_end0 | ((try simp only [Exit.inBlock, Exit.then]); refine bodyPost_ret (results_none rfl _ _ _) rfl ?_)
      exact ⟨by first | rfl | (simp [errW_none, errW_some] <;> rfl) | (simp [*, errW_none, errW_some] <;> rfl), by repeat (first | (with_reducible first | exact HI0.out | apply IsS47.alloc | apply IsS47.drewN | apply IsS47.drew | apply IsS47.set_1 | apply IsS47.set_2 | apply IsS47.set_3) | exact HI0.out), by repeat (first | (with_reducible first | exact HB.out | apply below_alloc | apply pw_below_drewN | apply below_drew1 | refine below_set ?_ (IsS47.ge HI0.out)) | exact HB.out), by repeat (first | (with_reducible first | exact HK.out | apply KeepBut.set_ | apply keep_drewN | apply keep_drew | apply keep_alloc) | exact HK.out)⟩
    · rw [if_neg c4] at H
      have c4b0 : (a1 == 0) = false := beq_eq_false_iff_ne.mpr c4
      have c4b1 : (a1 != 0) = true := bne_iff_ne.mpr c4
      simp only [Option.some.injEq, Prod.mk.injEq] at H
      obtain ⟨rfl, rfl, rfl⟩ := H
      obtain ⟨ASz6_0, cSz6_0, HGz6, hgz6, HSz6_0⟩ := HI0.out
      have hcz6_0 := cellS47_0 HGz6
      have hcz6_1 := cellS47_1 HGz6
      have hcz6_2 := cellS47_2 HGz6
      have hcz6_3 := cellS47_3 HGz6
      have hfz6_1 := blk_frozen HGz6 1
      have hfz6_2 := blk_frozen HGz6 2
      have hfz6_3 := blk_frozen HGz6 3
      clear HGz6 hgz6
      go_enter Tryd.func32, Tryd.ntmps32
      go_wp2
      first | go_end0 | ((try simp only [Exit.inBlock, Exit.then]); refine bodyPost_ret (results_none rfl _ _ _) rfl ?_)
      exact ⟨by first | rfl | (simp [errW_none, errW_some] <;> rfl) | (simp [*, errW_none, errW_some] <;> rfl), by repeat (first | (with_reducible first | exact HI0.out | apply IsS47.alloc | apply IsS47.drewN | apply IsS47.drew | apply IsS47.set_1 | apply IsS47.set_2 | apply IsS47.set_3) | exact HI0.out), by repeat (first | (with_reducible first | exact HB.out | apply below_alloc | apply pw_below_drewN | apply below_drew1 | refine below_set ?_ (IsS47.ge HI0.out)) | exact HB.out), by repeat (first | (with_reducible first | exact HK.out | apply KeepBut.set_ | apply keep_drewN | apply keep_drew | apply keep_alloc) | exact HK.out)⟩
  · rw [if_neg c3] at H
    have c3b0 : (s0_2 == 0) = false := beq_eq_false_iff_ne.mpr c3
    have c3b1 : (s0_2 != 0) = true := bne_iff_ne.mpr c3
    simp only [Option.some.injEq, Prod.mk.injEq] at H
    obtain ⟨rfl, rfl, rfl⟩ := H
    obtain ⟨ASz7_0, cSz7_0, HGz7, hgz7, HSz7_0⟩ := HI0.out
    have hcz7_0 := cellS47_0 HGz7
    have hcz7_1 := cellS47_1 HGz7
    have hcz7_2 := cellS47_2 HGz7
    have hcz7_3 := cellS47_3 HGz7
    have hfz7_1 := blk_frozen HGz7 1
    have hfz7_2 := blk_frozen HGz7 2
    have hfz7_3 := blk_frozen HGz7 3
    clear HGz7 hgz7
    go_enter Tryd.func32, Tryd.ntmps32
    go_wp2
    first | go_end0 | ((try simp only [Exit.inBlock, Exit.then]); refine bodyPost_ret (results_none rfl _ _ _) rfl ?_)
    exact ⟨by first | rfl | (simp [errW_none, errW_some] <;> rfl) | (simp [*, errW_none, errW_some] <;> rfl), by repeat (first | (with_reducible first | exact HI0.out | apply IsS47.alloc | apply IsS47.drewN | apply IsS47.drew | apply IsS47.set_1 | apply IsS47.set_2 | apply IsS47.set_3) | exact HI0.out), by repeat (first | (with_reducible first | exact HB.out | apply below_alloc | apply pw_below_drewN | apply below_drew1 | refine below_set ?_ (IsS47.ge HI0.out)) | exact HB.out), by repeat (first | (with_reducible first | exact HK.out | apply KeepBut.set_ | apply keep_drewN | apply keep_drew | apply keep_alloc) | exact HK.out)⟩

end Go.Proofs.YtjmhfbgpebgcmaaDoor.PNumReads
