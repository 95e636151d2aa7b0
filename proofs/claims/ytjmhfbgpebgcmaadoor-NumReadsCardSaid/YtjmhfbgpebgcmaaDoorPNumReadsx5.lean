/- WRITTEN BY A PROGRAM of this session (wip/tool: a turned copy of the printer), out of the translation: Lean functions with the answers of the Go functions, and the proofs that the Go code comes to them. -/
import Derived.Test.YtjmhfbgpebgcmaaDoorPNumReadsx0
import Derived.Test.YtjmhfbgpebgcmaaDoorPNumReadsx1
import Derived.Test.YtjmhfbgpebgcmaaDoorPNumReadsx2
import Derived.Test.YtjmhfbgpebgcmaaDoorPNumReadsx3
import Derived.Test.YtjmhfbgpebgcmaaDoorPNumReadsx4
namespace Go.Proofs.YtjmhfbgpebgcmaaDoor.PNumReads
open Go.RowKit Go.Proofs.YtjmhfbgpebgcmaaDoorW.PrintWords Go.Proofs.YtjmhfbgpebgcmaaDoorW.PrintLast Go.Proofs.YtjmhfbgpebgcmaaDoorW.PrintMore
attribute [local go_sem] max2_int min2_int max_two min_two max_three min_three max_four min_four   -- for this text's walks alone
set_option linter.unusedVariables false
set_option linter.unusedSimpArgs false

/-! ### estreatref01_Reader_Blob: function 31 -/
def estreatref01_Reader_Blob.f (k : Nat) (s0_0 : List Int) (s0_1 : Int) (s0_2 : Int) (s0_3 : Int) (a1 : Int) : Option (List Int × Int × Int × Int) :=
  if s0_2 ≠ 0 then some ([], s0_1, s0_2, s0_3)
  else if 0 ≤ s0_1 ∧ s0_1 ≤ (s0_0.length : Int) ∧ (s0_0.length : Int) ≤ 140737488355328 then
    (estreatref01_look.f k (s0_0.drop s0_1.toNat)).bind fun t =>
      if t.2.2 ≠ 0 then some ([], s0_1, t.2.2, s0_1)
      else if 0 ≤ t.2.1 ∧ s0_1 + t.2.1 ≤ (s0_0.length : Int) ∧ 0 ≤ t.1 ∧ t.1 < 18446744073709551616 then
        if a1 < 0 ∨ IntKind.u64.wrap a1 < t.1 then some ([], s0_1, 12, s0_1)
        else if (s0_0.length : Int) - s0_1 - t.2.1 < t.1 then some ([], s0_1, 2, s0_1)
        else estreatref01_Reader_Take.f s0_0 (s0_1 + t.2.1) 0 s0_3 t.1
      else none
  else none
theorem estreatref01_Reader_Blob.mono : ∀ s0_0 s0_1 s0_2 s0_3 a1 k, LeO (estreatref01_Reader_Blob.f k s0_0 s0_1 s0_2 s0_3 a1) (estreatref01_Reader_Blob.f (k + 1) s0_0 s0_1 s0_2 s0_3 a1) := by
  intro s0 s1 s2 s3 a1 k r h
  unfold estreatref01_Reader_Blob.f at h ⊢
  by_cases h0 : s2 ≠ 0
  · rw [if_pos h0] at h ⊢; exact h
  · rw [if_neg h0] at h ⊢
    by_cases h1 : 0 ≤ s1 ∧ s1 ≤ (s0.length : Int) ∧ (s0.length : Int) ≤ 140737488355328
    · rw [if_pos h1] at h ⊢
      obtain ⟨t, ht, h⟩ := Option.bind_eq_some_iff.mp h
      rw [estreatref01_look.mono _ k _ ht, Option.bind_some]; exact h
    · rw [if_neg h1] at h; cases h
set_option maxRecDepth 100000 in
set_option maxHeartbeats 16000000 in
theorem estreatref01_Reader_Blob.calls (k : Nat) (g : Nat) (s0_0 : List Int) (s0_1 : Int) (s0_2 : Int) (s0_3 : Int) (a1 : Int) (r1 : List Int) (r2 r3 r4 : Int) (w0 w : World) (hI : IsS47 w0 w g s0_0 s0_1 s0_2 s0_3) (hB : Below w0.heap.size w0 w) (h : estreatref01_Reader_Blob.f k s0_0 s0_1 s0_2 s0_3 a1 = some (r1, r2, r3, r4)) :
    Calls Tryd.prog 31 #[.pointer (some ⟨g, 0, none⟩), .int .i64 a1] w fun e w' => ∃ v0_ : Value, e = .returned v0_ ∧ (Kd.int .u8).R 5 w' w.heap.size (fun _ => True) v0_ r1 ∧ IsS47 w0 w' g s0_0 r2 r3 r4 ∧ Below w0.heap.size w0 w' ∧ KeepBut w w' g none := by
  unfold estreatref01_Reader_Blob.f at h
  have hI0 := hI
  obtain ⟨A1, c1, hb, _, hC0, hcc⟩ := id hI
  have hc0 := cellS47_0 hb
  have hc1 := cellS47_1 hb
  have hc2 := cellS47_2 hb
  have hfz := fun j => blk_frozen hb j
  have hg := hI.ge
  by_cases h0 : s0_2 ≠ 0
  · rw [if_pos h0] at h
    simp only [Option.some.injEq, Prod.mk.injEq] at h
    obtain ⟨rfl, rfl, rfl, rfl⟩ := h
    have d0 : (s0_2 != 0) = true := bne_iff_ne.mpr h0
    go_enter Tryd.func31, Tryd.ntmps31
    go_wp2
    go_ret
    exact ⟨_, rfl, Kd.R_nil _ _ _ _ _, hI0, hB, KeepBut.refl _ _ _⟩
  rw [if_neg h0] at h
  by_cases hb0 : 0 ≤ s0_1 ∧ s0_1 ≤ (s0_0.length : Int) ∧ (s0_0.length : Int) ≤ 140737488355328
  case neg => rw [if_neg hb0] at h; cases h
  rw [if_pos hb0] at h
  obtain ⟨⟨t1, t2, t3⟩, ht, hh⟩ := Option.bind_eq_some_iff.mp h
  clear h
  have h := hh
  clear hh
  dsimp only at h
  obtain ⟨hb1, hb2, hb3⟩ := hb0
  have h0 : s0_2 = 0 := by simpa using h0
  subst h0
  have hC := Kd.C_below hC0 hB
  have hmid := Kd.C_drop (m := s0_1.toNat) hC (by omega) hcc
  have hmid : (Kd.int .u8).C w (if c1 = s0_1.toNat then A1 else A1.map (fun x => x.add s0_1.toNat)) (s0_0.drop s0_1.toNat).length (s0_0.drop s0_1.toNat) := by simpa [Kd.int, Kd.scalar] using hmid
  have hst : s0_0.length - s0_1.toNat = (s0_0.drop s0_1.toNat).length := by rw [List.length_drop]
  have hle : (s0_0.drop s0_1.toNat).length ≤ c1 - s0_1.toNat := by omega
  have hl5 : s0_1 ≤ (c1 : Int) := by omega
  have hKC : (Kd.int .u8).C w.drew (if c1 = s0_1.toNat then A1 else A1.map (fun x => x.add s0_1.toNat)) (s0_0.drop s0_1.toNat).length (s0_0.drop s0_1.toNat) := Kd.C_below hmid (below_drew1 (Below.refl _ _))
  have hLK := fun (A0 : Option Addr) (c0 : Nat) (W : World) h1 h2 => estreatref01_look.calls k A0 c0 (s0_0.drop s0_1.toNat) t1 t2 t3 W h1 h2 ht
  generalize hL : s0_0.drop s0_1.toNat = l1 at *
  clear hmid hL ht hC hC0 hb
  have hw : wrap64 ((s0_0.length : Int) - s0_1) = (s0_0.length : Int) - s0_1 := by unfold wrap64; omega
  by_cases h3 : t3 ≠ 0
  · rw [if_pos h3] at h
    have h3 : ¬ t3 = 0 := h3
    simp only [Option.some.injEq, Prod.mk.injEq] at h
    obtain ⟨rfl, e2, e3, e4⟩ := h
    subst e2 e3 e4
    have d3 : (t3 == 0) = false := beq_eq_false_iff_ne.mpr h3
    have d3' : (t3 != 0) = true := bne_iff_ne.mpr h3
    have hF := fun W h1 h2 => estreatref01_Reader_Fail.calls g s0_0 s0_1 0 s0_3 t3 s0_1 t3 s0_1 w0 W h1 h2 (by simp [estreatref01_Reader_Fail.f, h3])
    by_cases hcs : c1 = s0_1.toNat
    case' pos => rw [if_pos hcs] at hKC; subst hcs
    case' neg => rw [if_neg hcs] at hKC
    all_goals
      go_enter Tryd.func31, Tryd.ntmps31
      go_wp2
      go_region_with (go_at_call 52; refine (hLK _ _ _ hKC (by omega)).mono ?_; rintro e w2 ⟨rfl, ⟨m, rfl⟩⟩)
      all_goals
        go_wp2_with (go_at_call 32; refine (hF _ (by repeat (first | exact hI0 | apply IsS47.drewN | apply IsS47.drew)) (by repeat (first | exact hB | apply pw_below_drewN | apply below_drew1))).mono ?_; rintro e w5 ⟨rfl, hI5, hB5, hK5⟩)
        repeat (go_quiet (fail); try go_wp2_with (go_at_call 32; refine (hF _ (by repeat (first | exact hI0 | apply IsS47.drewN | apply IsS47.drew)) (by repeat (first | exact hB | apply pw_below_drewN | apply below_drew1))).mono ?_; rintro e w5 ⟨rfl, hI5, hB5, hK5⟩))
        go_ret
        exact ⟨_, rfl, Kd.R_nil _ _ _ _ _, hI5, hB5, KeepBut.trans (by repeat (first | exact KeepBut.refl _ _ _ | apply keep_drewN | apply keep_drew)) hK5 (.inl rfl)⟩
  rw [if_neg h3] at h
  have h3 : t3 = 0 := by simpa using h3
  subst h3
  by_cases hb4 : 0 ≤ t2 ∧ s0_1 + t2 ≤ (s0_0.length : Int) ∧ 0 ≤ t1 ∧ t1 < 18446744073709551616
  case neg => rw [if_neg hb4] at h; cases h
  rw [if_pos hb4] at h
  obtain ⟨hb5, hb6, hb7, hb8⟩ := hb4
  by_cases h4 : a1 < 0
  · rw [if_pos (.inl h4)] at h
    simp only [Option.some.injEq, Prod.mk.injEq] at h
    obtain ⟨rfl, e2, rfl, e4⟩ := h
    subst e2 e4
    have d4 : decide (a1 < 0) = true := decide_eq_true h4
    have hF := fun W h1 h2 => estreatref01_Reader_Fail.calls g s0_0 s0_1 0 s0_3 12 s0_1 12 s0_1 w0 W h1 h2 (by simp [estreatref01_Reader_Fail.f])
    by_cases hcs : c1 = s0_1.toNat
    case' pos => rw [if_pos hcs] at hKC; subst hcs
    case' neg => rw [if_neg hcs] at hKC
    all_goals
      go_enter Tryd.func31, Tryd.ntmps31
      go_wp2
      go_region_with (go_at_call 52; refine (hLK _ _ _ hKC (by omega)).mono ?_; rintro e w2 ⟨rfl, ⟨m, rfl⟩⟩)
      all_goals
        go_wp2_with (go_at_call 32; refine (hF _ (by repeat (first | exact hI0 | apply IsS47.drewN | apply IsS47.drew)) (by repeat (first | exact hB | apply pw_below_drewN | apply below_drew1))).mono ?_; rintro e w5 ⟨rfl, hI5, hB5, hK5⟩)
        repeat (go_quiet (fail); try go_wp2_with (go_at_call 32; refine (hF _ (by repeat (first | exact hI0 | apply IsS47.drewN | apply IsS47.drew)) (by repeat (first | exact hB | apply pw_below_drewN | apply below_drew1))).mono ?_; rintro e w5 ⟨rfl, hI5, hB5, hK5⟩))
        go_ret
        exact ⟨_, rfl, Kd.R_nil _ _ _ _ _, hI5, hB5, KeepBut.trans (by repeat (first | exact KeepBut.refl _ _ _ | apply keep_drewN | apply keep_drew)) hK5 (.inl rfl)⟩
  have d4 : decide (a1 < 0) = false := decide_eq_false h4
  by_cases h6 : IntKind.u64.wrap a1 < t1
  · rw [if_pos (.inr h6)] at h
    simp only [Option.some.injEq, Prod.mk.injEq] at h
    obtain ⟨rfl, e2, rfl, e4⟩ := h
    subst e2 e4
    have d6 : decide (IntKind.u64.wrap a1 < t1) = true := decide_eq_true h6
    have hF := fun W h1 h2 => estreatref01_Reader_Fail.calls g s0_0 s0_1 0 s0_3 12 s0_1 12 s0_1 w0 W h1 h2 (by simp [estreatref01_Reader_Fail.f])
    by_cases hcs : c1 = s0_1.toNat
    case' pos => rw [if_pos hcs] at hKC; subst hcs
    case' neg => rw [if_neg hcs] at hKC
    all_goals
      go_enter Tryd.func31, Tryd.ntmps31
      go_wp2
      go_region_with (go_at_call 52; refine (hLK _ _ _ hKC (by omega)).mono ?_; rintro e w2 ⟨rfl, ⟨m, rfl⟩⟩)
      all_goals
        go_wp2_with (go_at_call 32; refine (hF _ (by repeat (first | exact hI0 | apply IsS47.drewN | apply IsS47.drew)) (by repeat (first | exact hB | apply pw_below_drewN | apply below_drew1))).mono ?_; rintro e w5 ⟨rfl, hI5, hB5, hK5⟩)
        repeat (go_quiet (fail); try go_wp2_with (go_at_call 32; refine (hF _ (by repeat (first | exact hI0 | apply IsS47.drewN | apply IsS47.drew)) (by repeat (first | exact hB | apply pw_below_drewN | apply below_drew1))).mono ?_; rintro e w5 ⟨rfl, hI5, hB5, hK5⟩))
        go_ret
        exact ⟨_, rfl, Kd.R_nil _ _ _ _ _, hI5, hB5, KeepBut.trans (by repeat (first | exact KeepBut.refl _ _ _ | apply keep_drewN | apply keep_drew)) hK5 (.inl rfl)⟩
  rw [if_neg (by rintro (h | h); exact h4 h; exact h6 h)] at h
  have hu1 : wrap64 ((s0_0.length : Int) - s0_1 - t2) = (s0_0.length : Int) - s0_1 - t2 := by unfold wrap64; omega
  have hu2 : IntKind.u64.wrap ((s0_0.length : Int) - s0_1 - t2) = (s0_0.length : Int) - s0_1 - t2 := by simp [IntKind.wrap, IntKind.bits, IntKind.signed]; omega
  have d6 : decide (IntKind.u64.wrap a1 < t1) = false := decide_eq_false h6
  by_cases h7 : (s0_0.length : Int) - s0_1 - t2 < t1
  · rw [if_pos h7] at h
    simp only [Option.some.injEq, Prod.mk.injEq] at h
    obtain ⟨rfl, e2, rfl, e4⟩ := h
    subst e2 e4
    have d7 : decide ((s0_0.length : Int) - s0_1 - t2 < t1) = true := decide_eq_true h7
    have hF := fun W h1 h2 => estreatref01_Reader_Fail.calls g s0_0 s0_1 0 s0_3 2 s0_1 2 s0_1 w0 W h1 h2 (by simp [estreatref01_Reader_Fail.f])
    by_cases hcs : c1 = s0_1.toNat
    case' pos => rw [if_pos hcs] at hKC; subst hcs
    case' neg => rw [if_neg hcs] at hKC
    all_goals
      go_enter Tryd.func31, Tryd.ntmps31
      go_wp2
      go_region_with (go_at_call 52; refine (hLK _ _ _ hKC (by omega)).mono ?_; rintro e w2 ⟨rfl, ⟨m, rfl⟩⟩)
      all_goals
        go_wp2_with (go_at_call 32; refine (hF _ (by repeat (first | exact hI0 | apply IsS47.drewN | apply IsS47.drew)) (by repeat (first | exact hB | apply pw_below_drewN | apply below_drew1))).mono ?_; rintro e w5 ⟨rfl, hI5, hB5, hK5⟩)
        repeat (go_quiet (fail); try go_wp2_with (go_at_call 32; refine (hF _ (by repeat (first | exact hI0 | apply IsS47.drewN | apply IsS47.drew)) (by repeat (first | exact hB | apply pw_below_drewN | apply below_drew1))).mono ?_; rintro e w5 ⟨rfl, hI5, hB5, hK5⟩))
        go_ret
        exact ⟨_, rfl, Kd.R_nil _ _ _ _ _, hI5, hB5, KeepBut.trans (by repeat (first | exact KeepBut.refl _ _ _ | apply keep_drewN | apply keep_drew)) hK5 (.inl rfl)⟩
  rw [if_neg h7] at h
  have d7 : decide ((s0_0.length : Int) - s0_1 - t2 < t1) = false := decide_eq_false h7
  have hu3 : IntKind.i64.wrap t1 = t1 := (IntKind.wrap_i64 _).trans (by omega)
  have hu4 : wrap64 t1 = t1 := by unfold wrap64; omega
  have hu5 : wrap64 (s0_1 + t2) = s0_1 + t2 := by unfold wrap64; omega
  have hT := fun W h1 h2 => estreatref01_Reader_Take.calls g s0_0 (s0_1 + t2) 0 s0_3 t1 r1 r2 r3 r4 w0 W h1 h2 h
  by_cases hcs : c1 = s0_1.toNat
  case' pos => rw [if_pos hcs] at hKC; subst hcs
  case' neg => rw [if_neg hcs] at hKC
  all_goals
    go_enter Tryd.func31, Tryd.ntmps31
    go_wp2
    go_region_with (go_at_call 52; refine (hLK _ _ _ hKC (by omega)).mono ?_; rintro e w2 ⟨rfl, ⟨m, rfl⟩⟩)
    all_goals
      go_wp2
      repeat (go_quiet (fail); try go_wp2_with (go_at_call 30; refine (hT _ ((by repeat (first | exact hI0 | apply IsS47.drewN | apply IsS47.drew) : IsS47 w0 _ g s0_0 s0_1 0 s0_3).set_1 _) (Below.setCell (p := ⟨g, 1, none⟩) (by repeat (first | exact hB | apply pw_below_drewN | apply below_drew1)) hg _)).mono ?_; rintro e w5 ⟨v5, rfl, hR5, hI5, hB5, hK5⟩))
      go_ret
      exact ⟨_, rfl, Kd.R_lower hR5 (by simp), hI5, hB5, KeepBut.trans (KeepBut.set_ (by repeat (first | exact KeepBut.refl _ _ _ | apply keep_drewN | apply keep_drew)) _ _) hK5 (.inl rfl)⟩

/-! ### num_Reader_End: function 33 -/
def num_Reader_End.f (s0_0 : List Int) (s0_1 : Int) (s0_2 : Int) (s0_3 : Int) : Option (Int × Int × Int × Int × Int) :=
  if s0_2 = 0 ∧ 0 < wrap64 ((s0_0.length : Int) - s0_1) then some (3, s0_1, s0_1, s0_2, s0_3) else some (s0_2, s0_3, s0_1, s0_2, s0_3)
set_option maxHeartbeats 8000000 in
theorem num_Reader_End.calls (g : Nat) (s0_0 : List Int) (s0_1 : Int) (s0_2 : Int) (s0_3 : Int) (r1 r2 : Int) (r3 r4 r5 : Int) (w0 w : World) (hI : IsS71 w0 w g s0_0 s0_1 s0_2 s0_3) (hB : Below w0.heap.size w0 w) (h : num_Reader_End.f s0_0 s0_1 s0_2 s0_3 = some (r1, r2, r3, r4, r5)) :
    Calls Tryd.prog 33 #[.pointer (some ⟨g, 0, none⟩)] w fun e w' => e = .returned (.tuple #[.int .i64 r1, .int .i64 r2]) ∧ IsS71 w0 w' g s0_0 r3 r4 r5 ∧ Below w0.heap.size w0 w' ∧ KeepBut w w' g none := by
  unfold num_Reader_End.f at h
  have hE := num_Reader_Err.calls g s0_0 s0_1 s0_2 s0_3 s0_2 s0_3 s0_1 s0_2 s0_3 w0 w hI hB rfl
  by_cases h0 : s0_2 = 0
  · have d0 : decide (s0_2 = 0) = true := decide_eq_true h0
    have e0 : (s0_2 == 0) = true := beq_iff_eq.mpr h0
    by_cases h1 : 0 < wrap64 ((s0_0.length : Int) - s0_1)
    · rw [if_pos ⟨h0, h1⟩] at h
      simp only [Option.some.injEq, Prod.mk.injEq] at h
      obtain ⟨rfl, rfl, rfl, rfl, rfl⟩ := h
      have hL := fun W (hW : IsS71 w0 W g s0_0 s0_1 s0_2 s0_3) => num_Reader_Left.walk g s0_0 s0_1 s0_2 s0_3 w0 W hW
      generalize wrap64 ((s0_0.length : Int) - s0_1) = lf at h1 hL
      have d1 : decide (0 < lf) = true := decide_eq_true h1
      go_enter Tryd.func33, Tryd.ntmps33
      go_wp2_with (first | (go_at_call 16; refine hE.mono ?_; rintro e w1 ⟨rfl, hI1, hB1, hK1⟩) | (go_at_call 21; refine (hL _ hI1).mono ?_; rintro e w2 ⟨rfl, ⟨m, rfl⟩⟩; obtain ⟨A1, c1, ev1, hbb, hc10, hc11, hc12, hfz1, _, _⟩ := hI1.open))
      repeat (go_quiet (fail); try go_wp2)
      go_ret2
      exact ⟨rfl, by repeat (first | exact hI1 | apply IsS71.drewN | apply IsS71.drew), by repeat (first | exact hB1 | apply pw_below_drewN | apply below_drew1), by repeat (first | exact hK1 | apply keep_drewN | apply keep_drew)⟩
    · rw [if_neg (by simp [h1])] at h
      subst h0
      have hL := fun W (hW : IsS71 w0 W g s0_0 s0_1 0 s0_3) => num_Reader_Left.walk g s0_0 s0_1 0 s0_3 w0 W hW
      generalize wrap64 ((s0_0.length : Int) - s0_1) = lf at h1 hL
      have d1 : decide (0 < lf) = false := decide_eq_false h1
      simp only [Option.some.injEq, Prod.mk.injEq] at h
      obtain ⟨rfl, rfl, rfl, rfl, rfl⟩ := h
      go_enter Tryd.func33, Tryd.ntmps33
      go_wp2_with (first | (go_at_call 16; refine hE.mono ?_; rintro e w1 ⟨rfl, hI1, hB1, hK1⟩) | (go_at_call 21; refine (hL _ hI1).mono ?_; rintro e w2 ⟨rfl, ⟨m, rfl⟩⟩))
      go_ret2
      exact ⟨rfl, by repeat (first | exact hI1 | apply IsS71.drewN | apply IsS71.drew), by repeat (first | exact hB1 | apply pw_below_drewN | apply below_drew1), by repeat (first | exact hK1 | apply keep_drewN | apply keep_drew)⟩
  · rw [if_neg (by simp [h0])] at h
    have d0 : decide (s0_2 = 0) = false := decide_eq_false h0
    have e0 : (s0_2 == 0) = false := beq_eq_false_iff_ne.mpr h0
    simp only [Option.some.injEq, Prod.mk.injEq] at h
    obtain ⟨rfl, rfl, rfl, rfl, rfl⟩ := h
    go_enter Tryd.func33, Tryd.ntmps33
    go_wp2_with (go_at_call 16; refine hE.mono ?_; rintro e w1 ⟨rfl, hI1, hB1, hK1⟩)
    go_ret2
    exact ⟨rfl, hI1, hB1, hK1⟩

/-! ### estreatref01_Reader_End: function 34 -/
def estreatref01_Reader_End.f (s0_0 : List Int) (s0_1 : Int) (s0_2 : Int) (s0_3 : Int) : Option (Int × Int × Int × Int × Int) := if s0_2 = 0 then (if s0_1 < (s0_0.length : Int) then (some (3, s0_1, s0_1, s0_2, s0_3)) else (some (s0_2, s0_3, s0_1, s0_2, s0_3))) else (some (s0_2, s0_3, s0_1, s0_2, s0_3))
set_option maxHeartbeats 8000000 in
set_option maxRecDepth 100000 in
theorem estreatref01_Reader_End.calls (g : Nat) (s0_0 : List Int) (s0_1 : Int) (s0_2 : Int) (s0_3 : Int) (r1 : Int) (r2 : Int) (r3 : Int) (r4 : Int) (r5 : Int) (w0 w : World) (hI : IsS47 w0 w g s0_0 s0_1 s0_2 s0_3) (hB : Below w0.heap.size w0 w) (h : estreatref01_Reader_End.f s0_0 s0_1 s0_2 s0_3 = some (r1, r2, r3, r4, r5)) :
    Calls Tryd.prog 34 #[.pointer (some ⟨g, 0, none⟩)] w fun e w' => e = .returned (.tuple #[.int .i64 r1, .int .i64 r2]) ∧ IsS47 w0 w' g s0_0 r3 r4 r5 ∧ Below w0.heap.size w0 w' ∧ KeepBut w w' g none := by
  have HI0 := Aside0.mk hI
  have HK := Aside0.mk (KeepBut.refl w g none)
  have HL := Aside0.mk hB.size
  clear hI
  have HW0 := Aside0.mk hB.size
  have HB := Aside0.mk hB
  clear hB
  have H : (if s0_2 = 0 then (if s0_1 < (s0_0.length : Int) then (some (3, s0_1, s0_1, s0_2, s0_3)) else (some (s0_2, s0_3, s0_1, s0_2, s0_3))) else (some (s0_2, s0_3, s0_1, s0_2, s0_3))) = some (r1, r2, r3, r4, r5) := h
  clear h
  by_cases c2 : s0_2 = 0
  · rw [if_pos c2] at H
    have c2b0 : (s0_2 == 0) = true := beq_iff_eq.mpr c2
    have c2b1 : (s0_2 != 0) = false := bne_eq_false_iff_eq.mpr c2
    clear c2
    by_cases c3 : s0_1 < (s0_0.length : Int)
    · rw [if_pos c3] at H
      have c3b0 : decide (s0_1 < (s0_0.length : Int)) = true := decide_eq_true c3
      clear c3
      simp only [Option.some.injEq, Prod.mk.injEq] at H
      obtain ⟨rfl, rfl, rfl, rfl, rfl⟩ := H
      obtain ⟨ASz4_0, cSz4_0, HGz4, hgz4, HSz4_0⟩ := HI0.out
      have hcz4_0 := cellS47_0 HGz4
      have hcz4_1 := cellS47_1 HGz4
      have hcz4_2 := cellS47_2 HGz4
      have hcz4_3 := cellS47_3 HGz4
      have hfz4_1 := blk_frozen HGz4 1
      have hfz4_2 := blk_frozen HGz4 2
      have hfz4_3 := blk_frozen HGz4 3
      clear HGz4 hgz4
      go_enter Tryd.func34, Tryd.ntmps34
      go_wp2
      repeat (go_quiet (fail); try go_wp2)
      go_ret2
      exact ⟨by first | rfl | (simp [errW_none, errW_some] <;> rfl) | (simp [*, errW_none, errW_some] <;> rfl), by repeat (first | (with_reducible first | exact HI0.out | apply IsS47.alloc | apply IsS47.drewN | apply IsS47.drew | apply IsS47.set_1 | apply IsS47.set_2 | apply IsS47.set_3) | exact HI0.out), by repeat (first | (with_reducible first | exact HB.out | apply below_alloc | apply pw_below_drewN | apply below_drew1 | refine below_set ?_ (IsS47.ge HI0.out)) | exact HB.out), by repeat (first | (with_reducible first | exact HK.out | apply KeepBut.set_ | apply keep_drewN | apply keep_drew | apply keep_alloc) | exact HK.out)⟩
    · rw [if_neg c3] at H
      have c3b0 : decide (s0_1 < (s0_0.length : Int)) = false := decide_eq_false c3
      clear c3
      simp only [Option.some.injEq, Prod.mk.injEq] at H
      obtain ⟨rfl, rfl, rfl, rfl, rfl⟩ := H
      obtain ⟨ASz5_0, cSz5_0, HGz5, hgz5, HSz5_0⟩ := HI0.out
      have hcz5_0 := cellS47_0 HGz5
      have hcz5_1 := cellS47_1 HGz5
      have hcz5_2 := cellS47_2 HGz5
      have hcz5_3 := cellS47_3 HGz5
      have hfz5_1 := blk_frozen HGz5 1
      have hfz5_2 := blk_frozen HGz5 2
      have hfz5_3 := blk_frozen HGz5 3
      clear HGz5 hgz5
      go_enter Tryd.func34, Tryd.ntmps34
      go_wp2
      repeat (go_quiet (fail); try go_wp2)
      go_ret2
      exact ⟨by first | rfl | (simp [errW_none, errW_some] <;> rfl) | (simp [*, errW_none, errW_some] <;> rfl), by repeat (first | (with_reducible first | exact HI0.out | apply IsS47.alloc | apply IsS47.drewN | apply IsS47.drew | apply IsS47.set_1 | apply IsS47.set_2 | apply IsS47.set_3) | exact HI0.out), by repeat (first | (with_reducible first | exact HB.out | apply below_alloc | apply pw_below_drewN | apply below_drew1 | refine below_set ?_ (IsS47.ge HI0.out)) | exact HB.out), by repeat (first | (with_reducible first | exact HK.out | apply KeepBut.set_ | apply keep_drewN | apply keep_drew | apply keep_alloc) | exact HK.out)⟩
  · rw [if_neg c2] at H
    have c2b0 : (s0_2 == 0) = false := beq_eq_false_iff_ne.mpr c2
    have c2b1 : (s0_2 != 0) = true := bne_iff_ne.mpr c2
    simp only [Option.some.injEq, Prod.mk.injEq] at H
    obtain ⟨rfl, rfl, rfl, rfl, rfl⟩ := H
    obtain ⟨ASz6_0, cSz6_0, HGz6, hgz6, HSz6_0⟩ := HI0.out
    have hcz6_0 := cellS47_0 HGz6
    have hcz6_1 := cellS47_1 HGz6
    have hcz6_2 := cellS47_2 HGz6
    have hcz6_3 := cellS47_3 HGz6
    have hfz6_1 := blk_frozen HGz6 1
    have hfz6_2 := blk_frozen HGz6 2
    have hfz6_3 := blk_frozen HGz6 3
    clear HGz6 hgz6
    go_enter Tryd.func34, Tryd.ntmps34
    go_wp2
    repeat (go_quiet (fail); try go_wp2)
    go_ret2
    exact ⟨by first | rfl | (simp [errW_none, errW_some] <;> rfl) | (simp [*, errW_none, errW_some] <;> rfl), by repeat (first | (with_reducible first | exact HI0.out | apply IsS47.alloc | apply IsS47.drewN | apply IsS47.drew | apply IsS47.set_1 | apply IsS47.set_2 | apply IsS47.set_3) | exact HI0.out), by repeat (first | (with_reducible first | exact HB.out | apply below_alloc | apply pw_below_drewN | apply below_drew1 | refine below_set ?_ (IsS47.ge HI0.out)) | exact HB.out), by repeat (first | (with_reducible first | exact HK.out | apply KeepBut.set_ | apply keep_drewN | apply keep_drew | apply keep_alloc) | exact HK.out)⟩

-- NOT PRINTED: function 5 (estreatlaw01_NumReads)

end Go.Proofs.YtjmhfbgpebgcmaaDoor.PNumReads
