/- WRITTEN BY A PROGRAM of this session (wip/tool: a turned copy of the printer), out of the translation: Lean functions with the answers of the Go functions, and the proofs that the Go code comes to them. -/
import Derived.Test.YtehbkhddbdgbcaaGreatDoorPChunkBackx1
import Derived.Test.YtehbkhddbdgbcaaGreatDoorPChunkBackx2
import Derived.Test.YtehbkhddbdgbcaaGreatDoorPChunkBackx3
import Derived.Test.YtehbkhddbdgbcaaGreatDoorPChunkBackx4
import Derived.Test.YtehbkhddbdgbcaaGreatDoorPChunkBackx7
import Derived.Test.YtehbkhddbdgbcaaGreatDoorPChunkBackx13
namespace Go.Proofs.YtehbkhddbdgbcaaGreatDoor.PChunkBack
open Go.RowKit Go.Proofs.YtehbkhddbdgbcaaGreatDoorW.PrintWords Go.Proofs.YtehbkhddbdgbcaaGreatDoorW.PrintLast Go.Proofs.YtehbkhddbdgbcaaGreatDoorW.PrintMore
attribute [local go_sem] max2_int min2_int max_two min_two max_three min_three max_four min_four   -- for this text's walks alone
set_option linter.unusedVariables false
set_option linter.unusedSimpArgs false

/-! ### chunk_Best: function 9 -/
def estreatref01_Same.l0 : Nat → List Int → List Int → Int → Option (Bool)
 | 0, _, _, _ => none
 | k + 1, x0, x1, x5 => if x5 < (x0.length : Int) then (if 0 ≤ x5 then (if x5 < (x1.length : Int) then (if (rd x0 x5) = (rd x1 x5) then (estreatref01_Same.l0 k x0 x1 (wrap64 (x5 + 1))) else (some false)) else (none)) else (none)) else (some true)
def estreatref01_Same.f (k : Nat) (l0 : List Int) (l1 : List Int) : Option (Bool) := if (l0.length : Int) = (l1.length : Int) then (estreatref01_Same.l0 k l0 l1 0) else (some false)
set_option maxHeartbeats 8000000 in
set_option maxRecDepth 100000 in
theorem estreatref01_Same.calls (k : Nat) (A0 : Option Addr) (c0 : Nat) (l0 : List Int) (A1 : Option Addr) (c1 : Nat) (l1 : List Int) (r : Bool) (w : World) (hr0 : Kd.C (Kd.int .u8) w A0 l0.length l0) (hc0 : l0.length ≤ c0) (hr1 : Kd.C (Kd.int .u8) w A1 l1.length l1) (hc1 : l1.length ≤ c1) (h : estreatref01_Same.f k l0 l1 = some r) :
  Calls Tryz.prog 13 #[.slice A0 l0.length c0, .slice A1 l1.length c1] w fun e w' => e = .returned (.bool r) ∧ Drawn0 w w' := by
 have HR0 := Aside0.mk hr0; have HC0 := Aside0.mk hc0; clear hr0 hc0; have HR1 := Aside0.mk hr1; have HC1 := Aside0.mk hc1; clear hr1 hc1; have H : (if (l0.length : Int) = (l1.length : Int) then (estreatref01_Same.l0 k l0 l1 0) else (some false)) = some r := h; clear h
 by_cases c3 : (l0.length : Int) = (l1.length : Int)
 ·rw [if_pos c3] at H; have c3b0 : ((l0.length : Int) == (l1.length : Int)) = true := beq_iff_eq.mpr c3; have c3b1 : ((l0.length : Int) != (l1.length : Int)) = false := bne_eq_false_iff_eq.mpr c3
  have c3b2 : (l0.length == l1.length) = true := by first | simpa using c3 | (simp at c3 ⊢; omega)
  clear c3; have H' := Aside0.mk H; clear H; go_enter Tryz.func13, Tryz.ntmps13; go_wp2
  repeat (go_quiet (fail); try go_wp2)
  go_loopg [5] k (fun kq v5 w' => ∃ (x5_1 : Int), v5 = .int .i64 x5_1 ∧ Aside0 (estreatref01_Same.l0 kq l0 l1 x5_1 = some r) ∧ Aside0 (kq ≤ k) ∧ Drawn0 w w')
  case atStart => exact ⟨(0), EB, H', ⟨Nat.le_refl _⟩, DR⟩
  case round =>
   clear H'; (try clear c1); (try clear p2); (try clear c3); (try clear c3b0); (try clear c3b1); (try clear c3b2); obtain ⟨x5_1, rfl, HA, HK1, ⟨m1, rfl⟩⟩ := hrel
   cases gk with
   | zero => exact absurd HA.out (by simp [estreatref01_Same.l0])
   | succ k1 =>
    have H := HA.out; clear HA; simp only [estreatref01_Same.l0] at H
    by_cases c4 : x5_1 < (l0.length : Int)
    ·rw [if_pos c4] at H; have c4b0 := decide_eq_true c4; clear c4
     by_cases c5 : 0 ≤ x5_1
     ·rw [if_pos c5] at H; have c5b0 := decide_eq_true c5; clear c5
      by_cases c6 : x5_1 < (l1.length : Int)
      ·rw [if_pos c6] at H; have c6b0 := decide_eq_true c6; clear c6
       by_cases c7 : (rd l0 x5_1) = (rd l1 x5_1)
       ·rw [if_pos c7] at H; have c7b0 : ((rd l0 x5_1) == (rd l1 x5_1)) = true := beq_iff_eq.mpr c7; have c7b1 : ((rd l0 x5_1) != (rd l1 x5_1)) = false := bne_eq_false_iff_eq.mpr c7; clear c7; have H' := Aside0.mk H; clear H; have p553 : 0 ≤ (x5_1 : Int) := OD; have q553 : x5_1 < (l0.length : Int) := OD; obtain ⟨ad553, e553, hx553_0⟩ := Kd.at_int HR0.out x5_1 p553 q553
        cases e553
        replace p553 := eq_true p553; replace q553 := eq_true q553; have p554 : 0 ≤ (x5_1 : Int) := OD; have q554 : x5_1 < (l1.length : Int) := OD; obtain ⟨ad554, e554, hx554_0⟩ := Kd.at_int HR1.out x5_1 p554 q554
        cases e554
        replace p554 := eq_true p554; replace q554 := eq_true q554; go_wp2
        repeat (go_quiet (fail); try go_wp2)
        go_roundg k1
        case measure => have := HK1.out; omega
        case rel => exact ⟨(wrap64 (x5_1 + 1)), EB, H', ⟨by have := HK1.out; omega⟩, DR⟩
       ·rw [if_neg c7] at H; have c7b0 : ((rd l0 x5_1) == (rd l1 x5_1)) = false := beq_eq_false_iff_ne.mpr c7; have c7b1 : ((rd l0 x5_1) != (rd l1 x5_1)) = true := bne_iff_ne.mpr c7; obtain rfl := Option.some.inj H; have p553 : 0 ≤ (x5_1 : Int) := OD; have q553 : x5_1 < (l0.length : Int) := OD; obtain ⟨ad553, e553, hx553_0⟩ := Kd.at_int HR0.out x5_1 p553 q553
        cases e553
        replace p553 := eq_true p553; replace q553 := eq_true q553; have p554 : 0 ≤ (x5_1 : Int) := OD; have q554 : x5_1 < (l1.length : Int) := OD; obtain ⟨ad554, e554, hx554_0⟩ := Kd.at_int HR1.out x5_1 p554 q554
        cases e554
        replace p554 := eq_true p554; replace q554 := eq_true q554; go_wp2
        repeat (go_quiet (fail); try go_wp2)
        go_ret
        exact ⟨EB, DR⟩
      ·rw [if_neg c6] at H; exact absurd H (by simp)
     ·rw [if_neg c5] at H; exact absurd H (by simp)
    ·rw [if_neg c4] at H; have c4b0 := decide_eq_false c4; clear c4; obtain rfl := Option.some.inj H; go_wp2
     repeat (go_quiet (fail); try go_wp2)
     go_ret
     exact ⟨EB, DR⟩
 ·rw [if_neg c3] at H; have c3b0 : ((l0.length : Int) == (l1.length : Int)) = false := beq_eq_false_iff_ne.mpr c3; have c3b1 : ((l0.length : Int) != (l1.length : Int)) = true := bne_iff_ne.mpr c3
  have c3b2 : (l0.length == l1.length) = false := by first | simpa using c3 | (simp at c3 ⊢; omega)
  obtain rfl := Option.some.inj H; go_enter Tryz.func13, Tryz.ntmps13; go_wp2
  repeat (go_quiet (fail); try go_wp2)
  go_ret
  exact ⟨EB, DR⟩

/-! ### estreatlaw14_awake: function 7 -/
def num_Reader_Blob.f (k : Nat) (s0_0 : List Int) (s0_1 : Int) (s0_2 : Int) (s0_3 : Int) (a1 : Int) : Option (List Int × Int × Int × Int) :=
 if s0_2 ≠ 0 then some ([], s0_1, s0_2, s0_3)
 else if 0 ≤ s0_1 ∧ s0_1 ≤ (s0_0.length : Int) ∧ (s0_0.length : Int) ≤ 140737488355328 then
  (num_short.f k (s0_0.drop s0_1.toNat)).bind fun t =>
   if t.2.2 ≠ 0 then some ([], s0_1, t.2.2, s0_1)
   else if 0 ≤ t.2.1 ∧ s0_1 + t.2.1 ≤ (s0_0.length : Int) ∧ 0 ≤ t.1 ∧ t.1 < 18446744073709551616 then
    if a1 < 0 ∨ IntKind.u64.wrap a1 < t.1 then some ([], s0_1, 12, s0_1)
    else if (s0_0.length : Int) - s0_1 - t.2.1 < t.1 then some ([], s0_1, 2, s0_1)
    else num_Reader_Take.f s0_0 (s0_1 + t.2.1) 0 s0_3 t.1
   else none
 else none
set_option maxRecDepth 100000 in
set_option maxHeartbeats 16000000 in
theorem num_Reader_Blob.calls (k : Nat) (g : Nat) (s0_0 : List Int) (s0_1 : Int) (s0_2 : Int) (s0_3 : Int) (a1 : Int) (r1 : List Int) (r2 r3 r4 : Int) (w0 w : World) (hI : IsS73 w0 w g s0_0 s0_1 s0_2 s0_3) (hB : Below w0.heap.size w0 w) (h : num_Reader_Blob.f k s0_0 s0_1 s0_2 s0_3 a1 = some (r1, r2, r3, r4)) :
  Calls Tryz.prog 66 #[.pointer (some ⟨g, 0, none⟩), .int .i64 a1] w fun e w' => ∃ v0_ : Value, e = .returned v0_ ∧ (Kd.int .u8).R 5 w' w.heap.size (fun _ => True) v0_ r1 ∧ IsS73 w0 w' g s0_0 r2 r3 r4 ∧ Below w0.heap.size w0 w' ∧ KeepBut w w' g none := by
 unfold num_Reader_Blob.f at h; have hI0 := hI; obtain ⟨A1, c1, ev, hb, hc0, hc1, hc2, hfz, hr, hf⟩ := hI.open; have hg := hI.ge
 by_cases h0 : s0_2 ≠ 0
 ·rw [if_pos h0] at h; simp only [Option.some.injEq, Prod.mk.injEq] at h; obtain ⟨rfl, rfl, rfl, rfl⟩ := h; have d0 : decide (s0_2 = 0) = false := decide_eq_false h0; go_enter Tryz.func66, Tryz.ntmps66
  go_wp2_with (go_at_call 42; refine (num_Reader_ok.walk g _ _ _ _ w0 _ hI0).mono ?_; rintro e w' ⟨he, rfl⟩; rw [d0] at he; subst he)
  go_ret
  exact ⟨_, rfl, Kd.R_nil _ _ _ _ _, hI0, hB, KeepBut.refl _ _ _⟩
 rw [if_neg h0] at h
 by_cases hb0 : 0 ≤ s0_1 ∧ s0_1 ≤ (s0_0.length : Int) ∧ (s0_0.length : Int) ≤ 140737488355328
 case neg => rw [if_neg hb0] at h; cases h
 rw [if_pos hb0] at h; obtain ⟨⟨t1, t2, t3⟩, ht, hh⟩ := Option.bind_eq_some_iff.mp h; clear h; have h := hh; clear hh; dsimp only at h; obtain ⟨hb1, hb2, hb3⟩ := hb0
 have h0 : s0_2 = 0 := by simpa using h0
 have d0 : decide (s0_2 = 0) = true := decide_eq_true h0; obtain ⟨_, hcc, hC⟩ := Kd.R_reads' hr; have hmid := Kd.C_drop (m := s0_1.toNat) hC (by omega) hcc
 have hmid : (Kd.int .u8).C w (if c1 = s0_1.toNat then A1 else A1.map (fun x => x.add s0_1.toNat)) (s0_0.drop s0_1.toNat).length (s0_0.drop s0_1.toNat) := by simpa [Kd.int, Kd.scalar] using hmid
 have hst : s0_0.length - s0_1.toNat = (s0_0.drop s0_1.toNat).length := by rw [List.length_drop]
 have hle : (s0_0.drop s0_1.toNat).length ≤ c1 - s0_1.toNat := by omega
 have hl5 : s0_1 ≤ (c1 : Int) := by omega
 have hKC : (Kd.int .u8).C w.drew (if c1 = s0_1.toNat then A1 else A1.map (fun x => x.add s0_1.toNat)) (s0_0.drop s0_1.toNat).length (s0_0.drop s0_1.toNat) := Kd.C_below hmid (below_drew1 (Below.refl _ _))
 have hLK := fun (A0 : Option Addr) (c0 : Nat) (W : World) h1 h2 => num_short.calls k A0 c0 (s0_0.drop s0_1.toNat) t1 t2 t3 W h1 h2 ht
 generalize hL : s0_0.drop s0_1.toNat = l1 at *; clear hmid hL ht hC hr hf hb
 have hw : wrap64 ((s0_0.length : Int) - s0_1) = (s0_0.length : Int) - s0_1 := by unfold wrap64; omega
 have hnx : ∀ x, x ≠ 0 → num_Reader_Fail.next s0_2 s0_1 s0_3 x = (x, s0_1) := fun x hx => if_pos ⟨h0, hx⟩
 by_cases h3 : t3 ≠ 0
 ·rw [if_pos h3] at h; have h3 : ¬ t3 = 0 := h3; simp only [Option.some.injEq, Prod.mk.injEq] at h; obtain ⟨rfl, e2, e3, e4⟩ := h; subst e2 e3 e4
  have hF := fun W h1 h2 => num_Reader_Fail.walk g s0_0 s0_1 s0_2 s0_3 t3 w0 W h1 h2
  rw [hnx _ (h3)] at hF
  by_cases hcs : c1 = s0_1.toNat
  case' pos => rw [if_pos hcs] at hKC; subst hcs
  case' neg => rw [if_neg hcs] at hKC
  all_goals
   go_enter Tryz.func66, Tryz.ntmps66
   go_wp2_with (go_at_call 42; refine (num_Reader_ok.walk g _ _ _ _ w0 _ hI0).mono ?_; rintro e w' ⟨he, rfl⟩; rw [d0] at he; subst he)
   go_region_with (go_at_call 96; refine (hLK _ _ _ hKC (by omega)).mono ?_; rintro e w2 ⟨rfl, ⟨m, rfl⟩⟩)
   all_goals
    go_wp2_with ((go_at_call 39; refine (hF _ (by repeat (first | exact hI0 | apply IsS73.drewN | apply IsS73.drew)) (by repeat (first | exact hB | apply pw_below_drewN | apply below_drew1))).mono ?_; rintro e w5 ⟨rfl, hI5, hB5, hK5⟩))
    go_ret
    exact ⟨_, rfl, Kd.R_nil _ _ _ _ _, hI5, hB5, KeepBut.trans (by repeat (first | exact KeepBut.refl _ _ _ | apply keep_drewN | apply keep_drew)) hK5 (.inl rfl)⟩
 rw [if_neg h3] at h
 have h3 : t3 = 0 := by simpa using h3
 subst h3
 by_cases hb4 : 0 ≤ t2 ∧ s0_1 + t2 ≤ (s0_0.length : Int) ∧ 0 ≤ t1 ∧ t1 < 18446744073709551616
 case neg => rw [if_neg hb4] at h; cases h
 rw [if_pos hb4] at h; obtain ⟨hb5, hb6, hb7, hb8⟩ := hb4
 by_cases h4 : a1 < 0
 ·rw [if_pos (.inl h4)] at h; simp only [Option.some.injEq, Prod.mk.injEq] at h; obtain ⟨rfl, e2, rfl, e4⟩ := h; subst e2 e4; have d4 : decide (a1 < 0) = true := decide_eq_true h4
  have hF := fun W h1 h2 => num_Reader_Fail.walk g s0_0 s0_1 s0_2 s0_3 12 w0 W h1 h2
  rw [hnx _ (by decide)] at hF
  by_cases hcs : c1 = s0_1.toNat
  case' pos => rw [if_pos hcs] at hKC; subst hcs
  case' neg => rw [if_neg hcs] at hKC
  all_goals
   go_enter Tryz.func66, Tryz.ntmps66
   go_wp2_with (go_at_call 42; refine (num_Reader_ok.walk g _ _ _ _ w0 _ hI0).mono ?_; rintro e w' ⟨he, rfl⟩; rw [d0] at he; subst he)
   go_region_with (go_at_call 96; refine (hLK _ _ _ hKC (by omega)).mono ?_; rintro e w2 ⟨rfl, ⟨m, rfl⟩⟩)
   all_goals
    go_wp2_with ((go_at_call 39; refine (hF _ (by repeat (first | exact hI0 | apply IsS73.drewN | apply IsS73.drew)) (by repeat (first | exact hB | apply pw_below_drewN | apply below_drew1))).mono ?_; rintro e w5 ⟨rfl, hI5, hB5, hK5⟩))
    go_ret
    exact ⟨_, rfl, Kd.R_nil _ _ _ _ _, hI5, hB5, KeepBut.trans (by repeat (first | exact KeepBut.refl _ _ _ | apply keep_drewN | apply keep_drew)) hK5 (.inl rfl)⟩
 have d4 : decide (a1 < 0) = false := decide_eq_false h4
 by_cases h6 : IntKind.u64.wrap a1 < t1
 ·rw [if_pos (.inr h6)] at h; simp only [Option.some.injEq, Prod.mk.injEq] at h; obtain ⟨rfl, e2, rfl, e4⟩ := h; subst e2 e4; have d6 : decide (IntKind.u64.wrap a1 < t1) = true := decide_eq_true h6
  have hF := fun W h1 h2 => num_Reader_Fail.walk g s0_0 s0_1 s0_2 s0_3 12 w0 W h1 h2
  rw [hnx _ (by decide)] at hF
  by_cases hcs : c1 = s0_1.toNat
  case' pos => rw [if_pos hcs] at hKC; subst hcs
  case' neg => rw [if_neg hcs] at hKC
  all_goals
   go_enter Tryz.func66, Tryz.ntmps66
   go_wp2_with (go_at_call 42; refine (num_Reader_ok.walk g _ _ _ _ w0 _ hI0).mono ?_; rintro e w' ⟨he, rfl⟩; rw [d0] at he; subst he)
   go_region_with (go_at_call 96; refine (hLK _ _ _ hKC (by omega)).mono ?_; rintro e w2 ⟨rfl, ⟨m, rfl⟩⟩)
   all_goals
    go_wp2_with ((go_at_call 39; refine (hF _ (by repeat (first | exact hI0 | apply IsS73.drewN | apply IsS73.drew)) (by repeat (first | exact hB | apply pw_below_drewN | apply below_drew1))).mono ?_; rintro e w5 ⟨rfl, hI5, hB5, hK5⟩))
    go_ret
    exact ⟨_, rfl, Kd.R_nil _ _ _ _ _, hI5, hB5, KeepBut.trans (by repeat (first | exact KeepBut.refl _ _ _ | apply keep_drewN | apply keep_drew)) hK5 (.inl rfl)⟩
 rw [if_neg (by rintro (h | h); exact h4 h; exact h6 h)] at h
 have hu1 : wrap64 ((s0_0.length : Int) - s0_1 - t2) = (s0_0.length : Int) - s0_1 - t2 := by unfold wrap64; omega
 have hu2 : IntKind.u64.wrap ((s0_0.length : Int) - s0_1 - t2) = (s0_0.length : Int) - s0_1 - t2 := by simp [IntKind.wrap, IntKind.bits, IntKind.signed]; omega
 have d6 : decide (IntKind.u64.wrap a1 < t1) = false := decide_eq_false h6
 by_cases h7 : (s0_0.length : Int) - s0_1 - t2 < t1
 ·rw [if_pos h7] at h; simp only [Option.some.injEq, Prod.mk.injEq] at h; obtain ⟨rfl, e2, rfl, e4⟩ := h; subst e2 e4; have d7 : decide ((s0_0.length : Int) - s0_1 - t2 < t1) = true := decide_eq_true h7
  have hF := fun W h1 h2 => num_Reader_Fail.walk g s0_0 s0_1 s0_2 s0_3 2 w0 W h1 h2
  rw [hnx _ (by decide)] at hF
  by_cases hcs : c1 = s0_1.toNat
  case' pos => rw [if_pos hcs] at hKC; subst hcs
  case' neg => rw [if_neg hcs] at hKC
  all_goals
   go_enter Tryz.func66, Tryz.ntmps66
   go_wp2_with (go_at_call 42; refine (num_Reader_ok.walk g _ _ _ _ w0 _ hI0).mono ?_; rintro e w' ⟨he, rfl⟩; rw [d0] at he; subst he)
   go_region_with (go_at_call 96; refine (hLK _ _ _ hKC (by omega)).mono ?_; rintro e w2 ⟨rfl, ⟨m, rfl⟩⟩)
   all_goals
    go_wp2_with (first | (go_at_call 23; refine (num_Reader_Left.walk g _ _ _ _ w0 _ (by repeat (first | exact hI0 | apply IsS73.drewN | apply IsS73.drew))).mono ?_; rintro e w4 ⟨rfl, ⟨m4, rfl⟩⟩; rw [hw]) | (go_at_call 39; refine (hF _ (by repeat (first | exact hI0 | apply IsS73.drewN | apply IsS73.drew)) (by repeat (first | exact hB | apply pw_below_drewN | apply below_drew1))).mono ?_; rintro e w5 ⟨rfl, hI5, hB5, hK5⟩))
    go_ret
    exact ⟨_, rfl, Kd.R_nil _ _ _ _ _, hI5, hB5, KeepBut.trans (by repeat (first | exact KeepBut.refl _ _ _ | apply keep_drewN | apply keep_drew)) hK5 (.inl rfl)⟩
 rw [if_neg h7] at h; have d7 : decide ((s0_0.length : Int) - s0_1 - t2 < t1) = false := decide_eq_false h7
 have hw1 : wrap64 (s0_1 + t2) = s0_1 + t2 := by unfold wrap64; omega
 have hw2 : wrap64 t1 = t1 := by unfold wrap64; omega
 have hw3 : IntKind.i64.wrap t1 = t1 := (IntKind.wrap_i64 _).trans (by omega); subst h0
 have hT := fun W h1 h2 => num_Reader_Take.calls g s0_0 (s0_1 + t2) 0 s0_3 t1 r1 r2 r3 r4 w0 W h1 h2 h
 by_cases hcs : c1 = s0_1.toNat
 case' pos => rw [if_pos hcs] at hKC; subst hcs
 case' neg => rw [if_neg hcs] at hKC
 all_goals
  go_enter Tryz.func66, Tryz.ntmps66
  go_wp2_with (go_at_call 42; refine (num_Reader_ok.walk g _ _ _ _ w0 _ hI0).mono ?_; rintro e w' ⟨he, rfl⟩; rw [d0] at he; subst he)
  go_region_with (go_at_call 96; refine (hLK _ _ _ hKC (by omega)).mono ?_; rintro e w2 ⟨rfl, ⟨m, rfl⟩⟩)
  all_goals
   go_wp2_with (first | (go_at_call 23; refine (num_Reader_Left.walk g _ _ _ _ w0 _ (by repeat (first | exact hI0 | apply IsS73.drewN | apply IsS73.drew))).mono ?_; rintro e w4 ⟨rfl, ⟨m4, rfl⟩⟩; rw [hw]) | (go_at_call 22; refine (hT _ (IsS73.set_1 (by repeat (first | exact hI0 | apply IsS73.drewN | apply IsS73.drew)) _) (Below.setCell (p := ⟨g, 1, none⟩) (by repeat (first | exact hB | apply pw_below_drewN | apply below_drew1)) hg _)).mono ?_; rintro e w5 ⟨v5, rfl, hR5, hI5, hB5, hK5⟩))
   go_ret
   exact ⟨_, rfl, Kd.R_lower hR5 (by simp), hI5, hB5, KeepBut.trans (KeepBut.set_ (by repeat (first | exact KeepBut.refl _ _ _ | apply keep_drewN | apply keep_drew)) _ _) hK5 (.inl rfl)⟩

end Go.Proofs.YtehbkhddbdgbcaaGreatDoor.PChunkBack
