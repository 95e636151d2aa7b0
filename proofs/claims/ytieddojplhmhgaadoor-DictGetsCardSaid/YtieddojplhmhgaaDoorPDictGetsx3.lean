/- WRITTEN BY A PROGRAM of this session (wip/tool: a turned copy of the printer), out of the translation: Lean functions with the answers of the Go functions, and the proofs that the Go code comes to them. -/
import Derived.Test.YtieddojplhmhgaaDoorPDictGetsx0
import Derived.Test.YtieddojplhmhgaaDoorPDictGetsx2
namespace Go.Proofs.YtieddojplhmhgaaDoor.PDictGets
open Go.RowKit Go.Proofs.YtieddojplhmhgaaDoorW.PrintWords Go.Proofs.YtieddojplhmhgaaDoorW.PrintLast Go.Proofs.YtieddojplhmhgaaDoorW.PrintMore
attribute [local go_sem] max2_int min2_int max_two min_two max_three min_three max_four min_four   -- for this text's walks alone
set_option linter.unusedVariables false
set_option linter.unusedSimpArgs false

/-! ### num_Reader_Left: function 42 -/
set_option maxHeartbeats 4000000 in
theorem num_Reader_Left.walk (g : Nat) (s0_0 : List Int) (s0_1 : Int) (s0_2 : Int) (s0_3 : Int) (w0 w : World) (hI : IsS87 w0 w g s0_0 s0_1 s0_2 s0_3) :
    Calls Tryd.prog 42 #[.pointer (some ⟨g, 0, none⟩)] w fun e w' => e = .returned (.int .i64 (wrap64 ((s0_0.length : Int) - s0_1))) ∧ Drawn0 w w' := by
  obtain ⟨A, c, ev, hb, hc0, hc1, hc2, hfz, hr, hf⟩ := hI.open
  have e1 : ∀ w, (binOp BinOp.eql 50 (.pointer (some ⟨g, 0, none⟩)) (.pointer none)).run Tryd.prog w = .ok (.bool false) w := fun w => by kernel_rfl
  go_enter Tryd.func42, Tryd.ntmps42
  go_wp2
  go_quiet (fail)
  go_wp2
  go_ret
  exact ⟨rfl, ⟨_, rfl⟩⟩
def num_Reader_Left.f (s0_0 : List Int) (s0_1 : Int) (s0_2 : Int) (s0_3 : Int) : Option (Int × Int × Int × Int) := some (wrap64 ((s0_0.length : Int) - s0_1), s0_1, s0_2, s0_3)
theorem num_Reader_Left.calls (g : Nat) (s0_0 : List Int) (s0_1 : Int) (s0_2 : Int) (s0_3 : Int) (r1 : Int) (r2 r3 r4 : Int) (w0 w : World) (hI : IsS87 w0 w g s0_0 s0_1 s0_2 s0_3) (hB : Below w0.heap.size w0 w) (h : num_Reader_Left.f s0_0 s0_1 s0_2 s0_3 = some (r1, r2, r3, r4)) :
    Calls Tryd.prog 42 #[.pointer (some ⟨g, 0, none⟩)] w fun e w' => e = .returned (.int .i64 r1) ∧ IsS87 w0 w' g s0_0 r2 r3 r4 ∧ Below w0.heap.size w0 w' ∧ KeepBut w w' g none := by
  simp only [num_Reader_Left.f, Option.some.injEq, Prod.mk.injEq] at h
  obtain ⟨rfl, rfl, rfl, rfl⟩ := h
  refine (num_Reader_Left.walk g s0_0 s0_1 s0_2 s0_3 w0 w hI).mono ?_
  rintro e w' ⟨rfl, ⟨m, rfl⟩⟩
  exact ⟨rfl, hI.drewN m, pw_below_drewN hB m, keep_drewN (KeepBut.refl _ _ _) m⟩

/-! ### num_Reader_Take: function 41 -/
def num_Reader_Take.f (s0_0 : List Int) (s0_1 : Int) (s0_2 : Int) (s0_3 : Int) (a1 : Int) : Option (List Int × Int × Int × Int) :=
  if 0 ≤ s0_1 ∧ s0_1 ≤ (s0_0.length : Int) ∧ (s0_0.length : Int) ≤ 140737488355328 then
    if s0_2 ≠ 0 then some ([], s0_1, s0_2, s0_3)
    else if a1 < 0 then some ([], s0_1, 1, s0_1)
    else if (s0_0.length : Int) - s0_1 < a1 then some ([], s0_1, 2, s0_1)
    else some ((s0_0.drop s0_1.toNat).take a1.toNat, s0_1 + a1, 0, s0_3)
  else none
set_option maxHeartbeats 4000000 in
theorem num_Reader_Take.calls (g : Nat) (s0_0 : List Int) (s0_1 : Int) (s0_2 : Int) (s0_3 : Int) (a1 : Int) (r1 : List Int) (r2 r3 r4 : Int) (w0 w : World) (hI : IsS87 w0 w g s0_0 s0_1 s0_2 s0_3) (hB : Below w0.heap.size w0 w) (h : num_Reader_Take.f s0_0 s0_1 s0_2 s0_3 a1 = some (r1, r2, r3, r4)) :
    Calls Tryd.prog 41 #[.pointer (some ⟨g, 0, none⟩), .int .i64 a1] w fun e w' => ∃ v0_ : Value, e = .returned v0_ ∧ (Kd.int .u8).R 5 w' w.heap.size (fun _ => True) v0_ r1 ∧ IsS87 w0 w' g s0_0 r2 r3 r4 ∧ Below w0.heap.size w0 w' ∧ KeepBut w w' g none := by
  unfold num_Reader_Take.f at h
  by_cases hb0 : 0 ≤ s0_1 ∧ s0_1 ≤ (s0_0.length : Int) ∧ (s0_0.length : Int) ≤ 140737488355328
  case neg => rw [if_neg hb0] at h; cases h
  rw [if_pos hb0] at h
  have hw : wrap64 ((s0_0.length : Int) - s0_1) = (s0_0.length : Int) - s0_1 := by unfold wrap64; omega
  have hI0 := hI
  obtain ⟨A, c, ev, hb, hc0, hc1, hc2, hfz, hr, hf⟩ := hI.open
  have hg := hI.ge
  have hlt := hI.lt
  by_cases h0 : s0_2 = 0
  case neg =>
    rw [if_pos h0] at h
    simp only [Option.some.injEq, Prod.mk.injEq] at h
    obtain ⟨rfl, rfl, rfl, rfl⟩ := h
    have d0 : decide (s0_2 = 0) = false := decide_eq_false h0
    go_enter Tryd.func41, Tryd.ntmps41
    go_wp2_with (go_at_call 71; refine (num_Reader_ok.walk g _ _ _ _ w0 w hI0).mono ?_; rintro e w' ⟨he, rfl⟩; rw [d0] at he; subst he)
    go_ret
    exact ⟨_, rfl, Kd.R_nil _ _ _ _ _, hI0, hB, KeepBut.refl _ _ _⟩
  rw [if_neg (by simp [h0])] at h
  have d0 : decide (s0_2 = 0) = true := decide_eq_true h0
  by_cases h1 : a1 < 0
  · rw [if_pos h1] at h
    simp only [Option.some.injEq, Prod.mk.injEq] at h
    obtain ⟨rfl, rfl, rfl, rfl⟩ := h
    have d1 : decide (a1 < 0) = true := decide_eq_true h1
    have hn : num_Reader_Fail.next s0_2 s0_1 s0_3 1 = (1, s0_1) := if_pos ⟨h0, by decide⟩
    have hF := num_Reader_Fail.walk g s0_0 s0_1 s0_2 s0_3 1 w0 w hI0 hB
    rw [hn] at hF
    go_enter Tryd.func41, Tryd.ntmps41
    go_wp2_with (first | (go_at_call 71; refine (num_Reader_ok.walk g _ _ _ _ w0 w hI0).mono ?_; rintro e w' ⟨he, rfl⟩; rw [d0] at he; subst he) | (go_at_call 38; refine hF.mono ?_; rintro e w1 ⟨rfl, hI1, hB1, hK1⟩))
    go_ret
    exact ⟨_, rfl, Kd.R_nil _ _ _ _ _, hI1, hB1, hK1⟩
  rw [if_neg h1] at h
  have d1 : decide (a1 < 0) = false := decide_eq_false h1
  by_cases h2 : (s0_0.length : Int) - s0_1 < a1
  · rw [if_pos h2] at h
    simp only [Option.some.injEq, Prod.mk.injEq] at h
    obtain ⟨rfl, rfl, rfl, rfl⟩ := h
    have d2 : decide ((s0_0.length : Int) - s0_1 < a1) = true := decide_eq_true h2
    have hn : num_Reader_Fail.next s0_2 s0_1 s0_3 2 = (2, s0_1) := if_pos ⟨h0, by decide⟩
    have hF := fun m => num_Reader_Fail.walk g s0_0 s0_1 s0_2 s0_3 2 w0 (w.drewN m) (hI0.drewN m) (pw_below_drewN hB m)
    rw [hn] at hF
    go_enter Tryd.func41, Tryd.ntmps41
    go_wp2_with (first | (go_at_call 71; refine (num_Reader_ok.walk g _ _ _ _ w0 w hI0).mono ?_; rintro e w' ⟨he, rfl⟩; rw [d0] at he; subst he) | (go_at_call 42; refine (num_Reader_Left.walk g _ _ _ _ w0 _ hI0).mono ?_; rintro e w' ⟨rfl, ⟨m, rfl⟩⟩; rw [hw]) | (go_at_call 38; refine (hF _).mono ?_; rintro e w1 ⟨rfl, hI1, hB1, hK1⟩))
    go_ret
    exact ⟨_, rfl, Kd.R_nil _ _ _ _ _, hI1, hB1, hK1⟩
  rw [if_neg h2] at h
  have d2 : decide ((s0_0.length : Int) - s0_1 < a1) = false := decide_eq_false h2
  simp only [Option.some.injEq, Prod.mk.injEq] at h
  obtain ⟨rfl, rfl, rfl, rfl⟩ := h
  have hw2 : wrap64 (s0_1 + a1) = s0_1 + a1 := by unfold wrap64; omega
  obtain ⟨hb1, hb2, hb3⟩ := hb0
  go_enter Tryd.func41, Tryd.ntmps41
  go_wp2_with (first | (go_at_call 71; refine (num_Reader_ok.walk g _ _ _ _ w0 w hI0).mono ?_; rintro e w' ⟨he, rfl⟩; rw [d0] at he; subst he) | (go_at_call 42; refine (num_Reader_Left.walk g _ _ _ _ w0 _ hI0).mono ?_; rintro e w' ⟨rfl, ⟨m, rfl⟩⟩; rw [hw]))
  have hI1 := (hI0.drewN m).set_1 (s0_1 + a1)
  have hB1 := (pw_below_drewN hB m).setCell (p := ⟨g, 1, none⟩) hg (.int .i64 (s0_1 + a1))
  have hK1 := KeepBut.set_ (keep_drewN (KeepBut.refl w' g none) m) 1 (.int .i64 (s0_1 + a1))
  generalize (w'.drewN m).setCell ⟨g, 1, none⟩ (.int .i64 (s0_1 + a1)) = W0 at hI1 hB1 hK1 ⊢
  have hw3 : wrap64 (s0_1 + a1 - a1) = s0_1 := by unfold wrap64; omega
  have hw5 : IntKind.i64.wrap (s0_1 + a1 - a1) = s0_1 := (IntKind.wrap_i64 _).trans (by omega)
  have hlen : ((s0_0.drop s0_1.toNat).take a1.toNat).length = a1.toNat := by rw [List.length_take, List.length_drop]; omega
  have hxy : (s0_0.take (s0_1 + a1).toNat).drop s0_1.toNat = (s0_0.drop s0_1.toNat).take a1.toNat := by rw [List.drop_take]; congr 1; omega
  have hst : (s0_1 + a1).toNat - s0_1.toNat = ((s0_0.drop s0_1.toNat).take a1.toNat).length := by rw [hlen]; omega
  have hl1 : s0_1 ≤ s0_1 + a1 := by omega
  have hl2 : s0_1 + a1 ≤ (s0_0.length : Int) := by omega
  have hl3 : (s0_1 + a1).toNat ≤ s0_0.length := by omega
  have hl4 : s0_1.toNat ≤ (s0_1 + a1).toNat := by omega
  have hfc : bytes_Clone.f ((s0_0.drop s0_1.toNat).take a1.toNat) = some ((s0_0.drop s0_1.toNat).take a1.toNat) := by unfold bytes_Clone.f; rw [if_pos (by rw [hlen]; omega)]
  have hsz0 : w'.heap.size ≤ W0.heap.size := hK1.1
  clear hc0 hc1 hc2 hr hf hb hfz hw2 hw hI hI0 h2 d2 d1 h1
  generalize hT : s0_1 + a1 = t1 at *
  generalize hL : (s0_0.drop s0_1.toNat).take a1.toNat = l1 at *
  have HT := Aside0.mk hT
  have HL := Aside0.mk hL
  clear hT hL
  have hI2 := hI1.drew
  rw [h0] at hI2
  obtain ⟨A1, c1, ev1, hbA, hcA0, hcA1, _, _, hrA, _⟩ := hI1.open
  obtain ⟨_, hcc, hC⟩ := Kd.R_reads' hrA
  have hmid := Kd.C_mid hC hl4 hl3 hcc
  rw [hxy] at hmid
  have hmid : (Kd.int .u8).C W0 (if c1 = s0_1.toNat then A1 else A1.map (fun x => x.add s0_1.toNat)) l1.length l1 := by simpa [Kd.int, Kd.scalar] using hmid
  have hle : l1.length ≤ c1 - s0_1.toNat := by omega
  have hl5 : t1 ≤ (c1 : Int) := by omega
  clear hrA hC hbA hxy hlen hl2 hl3 hl4 hb2 hb3
  have hKC : Kd.C (Kd.int .u8) W0.drew (if c1 = s0_1.toNat then A1 else A1.map (fun x => x.add s0_1.toNat)) l1.length l1 := Kd.C_below hmid (below_drew1 (Below.refl _ _))
  have hdr : Below W0.heap.size W0 W0.drew := below_drew1 (Below.refl _ _)
  by_cases hcs : c1 = s0_1.toNat
  · rw [if_pos hcs] at hKC
    subst hcs
    go_region_with (go_at_call 70; refine (bytes_Clone.calls _ _ l1 l1 W0.drew hKC (by omega) hfc).mono ?_; rintro e w1 ⟨v, rfl, hR, hB2⟩)
    all_goals (go_wp2; go_ret; exact ⟨_, rfl, by rw [HL.out]; exact Kd.R_lower hR hsz0, by rw [HT.out]; exact hI2.below hB2, below_step (below_drew1 hB1) hB2, (keep_drew hK1).trans (KeepBut.of_below hB2 g none) (.inl rfl)⟩)
  · rw [if_neg hcs] at hKC
    go_region_with (go_at_call 70; refine (bytes_Clone.calls _ _ l1 l1 W0.drew hKC hle hfc).mono ?_; rintro e w1 ⟨v, rfl, hR, hB2⟩)
    all_goals (go_wp2; go_ret; exact ⟨_, rfl, by rw [HL.out]; exact Kd.R_lower hR hsz0, by rw [HT.out]; exact hI2.below hB2, below_step (below_drew1 hB1) hB2, (keep_drew hK1).trans (KeepBut.of_below hB2 g none) (.inl rfl)⟩)

/-! ### num_Reader_Fix: function 37 -/
def num_Reader_Fix.j0 : Nat → Int → Bool → List Int → Int → Int → Int → Option (Int × Int × Int × Int)
  | 0, _, _, _, _, _, _ => none
  | k + 1, x1, x12, x1000, x1001, x1002, x1003 => if x12 = true then ((num_Reader_ok.f x1000 x1001 x1002 x1003).bind fun bt166 => (if bt166.1 = true then ((num_Reader_Fail.f x1000 bt166.2.1 bt166.2.2.1 bt166.2.2.2 1).bind fun bt170 => (some (0, bt170.1, bt170.2.1, bt170.2.2))) else (some (0, bt166.2.1, bt166.2.2.1, bt166.2.2.2)))) else ((num_Reader_Take.f x1000 x1001 x1002 x1003 x1).bind fun bt173 => (if (bt173.1.length : Int) = 8 then (if 7 < (bt173.1.length : Int) then (if 6 < (bt173.1.length : Int) then (if 5 < (bt173.1.length : Int) then (if 4 < (bt173.1.length : Int) then (if 3 < (bt173.1.length : Int) then (if 2 < (bt173.1.length : Int) then (if 1 < (bt173.1.length : Int) then (if 0 < (bt173.1.length : Int) then (some (Go.bits .or .u64 (Go.bits .or .u64 (Go.bits .or .u64 (Go.bits .or .u64 (Go.bits .or .u64 (Go.bits .or .u64 (Go.bits .or .u64 (Go.bits .or .u64 0 (IntKind.u64.wrap ((IntKind.u64.wrap (rd bt173.1 7)) * 72057594037927936))) (IntKind.u64.wrap ((IntKind.u64.wrap (rd bt173.1 6)) * 281474976710656))) (IntKind.u64.wrap ((IntKind.u64.wrap (rd bt173.1 5)) * 1099511627776))) (IntKind.u64.wrap ((IntKind.u64.wrap (rd bt173.1 4)) * 4294967296))) (IntKind.u64.wrap ((IntKind.u64.wrap (rd bt173.1 3)) * 16777216))) (IntKind.u64.wrap ((IntKind.u64.wrap (rd bt173.1 2)) * 65536))) (IntKind.u64.wrap ((IntKind.u64.wrap (rd bt173.1 1)) * 256))) (IntKind.u64.wrap (rd bt173.1 0)), bt173.2.1, bt173.2.2.1, bt173.2.2.2)) else (none)) else (none)) else (none)) else (none)) else (none)) else (none)) else (none)) else (none)) else (if (bt173.1.length : Int) = 7 then (if 6 < (bt173.1.length : Int) then (if 5 < (bt173.1.length : Int) then (if 4 < (bt173.1.length : Int) then (if 3 < (bt173.1.length : Int) then (if 2 < (bt173.1.length : Int) then (if 1 < (bt173.1.length : Int) then (if 0 < (bt173.1.length : Int) then (some (Go.bits .or .u64 (Go.bits .or .u64 (Go.bits .or .u64 (Go.bits .or .u64 (Go.bits .or .u64 (Go.bits .or .u64 (Go.bits .or .u64 0 (IntKind.u64.wrap ((IntKind.u64.wrap (rd bt173.1 6)) * 281474976710656))) (IntKind.u64.wrap ((IntKind.u64.wrap (rd bt173.1 5)) * 1099511627776))) (IntKind.u64.wrap ((IntKind.u64.wrap (rd bt173.1 4)) * 4294967296))) (IntKind.u64.wrap ((IntKind.u64.wrap (rd bt173.1 3)) * 16777216))) (IntKind.u64.wrap ((IntKind.u64.wrap (rd bt173.1 2)) * 65536))) (IntKind.u64.wrap ((IntKind.u64.wrap (rd bt173.1 1)) * 256))) (IntKind.u64.wrap (rd bt173.1 0)), bt173.2.1, bt173.2.2.1, bt173.2.2.2)) else (none)) else (none)) else (none)) else (none)) else (none)) else (none)) else (none)) else (if (bt173.1.length : Int) = 6 then (if 5 < (bt173.1.length : Int) then (if 4 < (bt173.1.length : Int) then (if 3 < (bt173.1.length : Int) then (if 2 < (bt173.1.length : Int) then (if 1 < (bt173.1.length : Int) then (if 0 < (bt173.1.length : Int) then (some (Go.bits .or .u64 (Go.bits .or .u64 (Go.bits .or .u64 (Go.bits .or .u64 (Go.bits .or .u64 (Go.bits .or .u64 0 (IntKind.u64.wrap ((IntKind.u64.wrap (rd bt173.1 5)) * 1099511627776))) (IntKind.u64.wrap ((IntKind.u64.wrap (rd bt173.1 4)) * 4294967296))) (IntKind.u64.wrap ((IntKind.u64.wrap (rd bt173.1 3)) * 16777216))) (IntKind.u64.wrap ((IntKind.u64.wrap (rd bt173.1 2)) * 65536))) (IntKind.u64.wrap ((IntKind.u64.wrap (rd bt173.1 1)) * 256))) (IntKind.u64.wrap (rd bt173.1 0)), bt173.2.1, bt173.2.2.1, bt173.2.2.2)) else (none)) else (none)) else (none)) else (none)) else (none)) else (none)) else (if (bt173.1.length : Int) = 5 then (if 4 < (bt173.1.length : Int) then (if 3 < (bt173.1.length : Int) then (if 2 < (bt173.1.length : Int) then (if 1 < (bt173.1.length : Int) then (if 0 < (bt173.1.length : Int) then (some (Go.bits .or .u64 (Go.bits .or .u64 (Go.bits .or .u64 (Go.bits .or .u64 (Go.bits .or .u64 0 (IntKind.u64.wrap ((IntKind.u64.wrap (rd bt173.1 4)) * 4294967296))) (IntKind.u64.wrap ((IntKind.u64.wrap (rd bt173.1 3)) * 16777216))) (IntKind.u64.wrap ((IntKind.u64.wrap (rd bt173.1 2)) * 65536))) (IntKind.u64.wrap ((IntKind.u64.wrap (rd bt173.1 1)) * 256))) (IntKind.u64.wrap (rd bt173.1 0)), bt173.2.1, bt173.2.2.1, bt173.2.2.2)) else (none)) else (none)) else (none)) else (none)) else (none)) else (if (bt173.1.length : Int) = 4 then (if 3 < (bt173.1.length : Int) then (if 2 < (bt173.1.length : Int) then (if 1 < (bt173.1.length : Int) then (if 0 < (bt173.1.length : Int) then (some (Go.bits .or .u64 (Go.bits .or .u64 (Go.bits .or .u64 (Go.bits .or .u64 0 (IntKind.u64.wrap ((IntKind.u64.wrap (rd bt173.1 3)) * 16777216))) (IntKind.u64.wrap ((IntKind.u64.wrap (rd bt173.1 2)) * 65536))) (IntKind.u64.wrap ((IntKind.u64.wrap (rd bt173.1 1)) * 256))) (IntKind.u64.wrap (rd bt173.1 0)), bt173.2.1, bt173.2.2.1, bt173.2.2.2)) else (none)) else (none)) else (none)) else (none)) else (if (bt173.1.length : Int) = 3 then (if 2 < (bt173.1.length : Int) then (if 1 < (bt173.1.length : Int) then (if 0 < (bt173.1.length : Int) then (some (Go.bits .or .u64 (Go.bits .or .u64 (Go.bits .or .u64 0 (IntKind.u64.wrap ((IntKind.u64.wrap (rd bt173.1 2)) * 65536))) (IntKind.u64.wrap ((IntKind.u64.wrap (rd bt173.1 1)) * 256))) (IntKind.u64.wrap (rd bt173.1 0)), bt173.2.1, bt173.2.2.1, bt173.2.2.2)) else (none)) else (none)) else (none)) else (if (bt173.1.length : Int) = 2 then (if 1 < (bt173.1.length : Int) then (if 0 < (bt173.1.length : Int) then (some (Go.bits .or .u64 (Go.bits .or .u64 0 (IntKind.u64.wrap ((IntKind.u64.wrap (rd bt173.1 1)) * 256))) (IntKind.u64.wrap (rd bt173.1 0)), bt173.2.1, bt173.2.2.1, bt173.2.2.2)) else (none)) else (none)) else (if (bt173.1.length : Int) = 1 then (if 0 < (bt173.1.length : Int) then (some (Go.bits .or .u64 0 (IntKind.u64.wrap (rd bt173.1 0)), bt173.2.1, bt173.2.2.1, bt173.2.2.2)) else (none)) else (some (0, bt173.2.1, bt173.2.2.1, bt173.2.2.2)))))))))))
def num_Reader_Fix.f (k : Nat) (s0_0 : List Int) (s0_1 : Int) (s0_2 : Int) (s0_3 : Int) (a1 : Int) : Option (Int × Int × Int × Int) := if a1 < 0 then (num_Reader_Fix.j0 k a1 true s0_0 s0_1 s0_2 s0_3) else (num_Reader_Fix.j0 k a1 (decide (a1 > 8)) s0_0 s0_1 s0_2 s0_3)
set_option maxHeartbeats 8000000 in
set_option maxRecDepth 100000 in
theorem num_Reader_Fix.calls (k : Nat) (g : Nat) (s0_0 : List Int) (s0_1 : Int) (s0_2 : Int) (s0_3 : Int) (a1 : Int) (r1 : Int) (r2 : Int) (r3 : Int) (r4 : Int) (w0 w : World) (hI : IsS87 w0 w g s0_0 s0_1 s0_2 s0_3) (hB : Below w0.heap.size w0 w) (h : num_Reader_Fix.f k s0_0 s0_1 s0_2 s0_3 a1 = some (r1, r2, r3, r4)) :
    Calls Tryd.prog 37 #[.pointer (some ⟨g, 0, none⟩), .int .i64 a1] w fun e w' => e = .returned (.int .u64 r1) ∧ IsS87 w0 w' g s0_0 r2 r3 r4 ∧ Below w0.heap.size w0 w' ∧ KeepBut w w' g none := by
  have HI0 := Aside0.mk hI
  have HK := Aside0.mk (KeepBut.refl w g none)
  have HL := Aside0.mk hB.size
  clear hI
  have HW0 := Aside0.mk hB.size
  have HB := Aside0.mk hB
  clear hB
  have H : (if a1 < 0 then (num_Reader_Fix.j0 k a1 true s0_0 s0_1 s0_2 s0_3) else (num_Reader_Fix.j0 k a1 (decide (a1 > 8)) s0_0 s0_1 s0_2 s0_3)) = some (r1, r2, r3, r4) := h
  clear h
  have HC3 := Aside0.mk H
  clear H
  go_enter Tryd.func37, Tryd.ntmps37
  go_upto_region 1 with (fail)
  go_cut [12] (fun v12 wc => ∃ (kq : Nat) (x12_2 : Bool), v12 = .bool x12_2 ∧ Aside0 (num_Reader_Fix.j0 kq a1 x12_2 s0_0 s0_1 s0_2 s0_3 = some (r1, r2, r3, r4)) ∧ Aside0 (kq ≤ k) ∧ Aside0 (IsS87 w0 wc g s0_0 s0_1 s0_2 s0_3) ∧ Aside0 (KeepBut w wc g none) ∧ Aside0 (Below w0.heap.size w0 wc))
  case first =>
    have H := HC3.out
    clear HC3
    by_cases c4 : a1 < 0
    · rw [if_pos c4] at H
      have c4b0 : decide (a1 < 0) = true := decide_eq_true c4
      clear c4
      (first | rw [c4b0] | (simp only [i64_w, i32_w]; rw [c4b0]) | skip)
      have H' := Aside0.mk H
      clear H
      go_wp2
      go_meet
      case rel => exact ⟨_, (true), (by first | rfl | (simp; done) | (simp [*]; done)), H', ⟨by first | omega | exact Nat.le_refl _⟩, ⟨by repeat (first | (with_reducible first | exact HI0.out | apply IsS87.alloc | apply IsS87.drewN | apply IsS87.drew | apply IsS87.set_1 | apply IsS87.set_2 | apply IsS87.set_3) | exact HI0.out)⟩, ⟨by repeat (first | (with_reducible first | exact HK.out | apply KeepBut.set_ | apply keep_drewN | apply keep_drew | apply keep_alloc) | exact HK.out)⟩, ⟨by repeat (first | (with_reducible first | exact HB.out | apply below_alloc | apply pw_below_drewN | apply below_drew1 | refine below_set ?_ (IsS87.ge HI0.out)) | exact HB.out)⟩⟩
    · rw [if_neg c4] at H
      have c4b0 : decide (a1 < 0) = false := decide_eq_false c4
      clear c4
      (first | rw [c4b0] | (simp only [i64_w, i32_w]; rw [c4b0]) | skip)
      have H' := Aside0.mk H
      clear H
      go_wp2
      go_meet
      case rel => exact ⟨_, (decide (a1 > 8)), (by first | rfl | (simp; done) | (simp [*]; done)), H', ⟨by first | omega | exact Nat.le_refl _⟩, ⟨by repeat (first | (with_reducible first | exact HI0.out | apply IsS87.alloc | apply IsS87.drewN | apply IsS87.drew | apply IsS87.set_1 | apply IsS87.set_2 | apply IsS87.set_3) | exact HI0.out)⟩, ⟨by repeat (first | (with_reducible first | exact HK.out | apply KeepBut.set_ | apply keep_drewN | apply keep_drew | apply keep_alloc) | exact HK.out)⟩, ⟨by repeat (first | (with_reducible first | exact HB.out | apply below_alloc | apply pw_below_drewN | apply below_drew1 | refine below_set ?_ (IsS87.ge HI0.out)) | exact HB.out)⟩⟩
  case rest =>
    clear HC3
    try clear p2
    try clear c3
    try clear c4
    try clear c4b0
    obtain ⟨kq, x12_2, rfl, HA, HJ2, HI0, HK, HB⟩ := hcut
    cases kq with
    | zero => exact absurd HA.out (by simp [num_Reader_Fix.j0])
    | succ kj2 =>
      have H := HA.out
      clear HA
      simp only [num_Reader_Fix.j0] at H
      by_cases c5 : x12_2 = true
      · subst c5
        have H1 : ((num_Reader_ok.f s0_0 s0_1 s0_2 s0_3).bind fun bt166 => (if bt166.1 = true then ((num_Reader_Fail.f s0_0 bt166.2.1 bt166.2.2.1 bt166.2.2.2 1).bind fun bt170 => (some (0, bt170.1, bt170.2.1, bt170.2.2))) else (some (0, bt166.2.1, bt166.2.2.1, bt166.2.2.2)))) = some (r1, r2, r3, r4) := by rw [if_pos rfl] at H; exact H
        clear H
        have H := H1
        clear H1
        replace H := Option.bind_eq_some_iff.mp H
        obtain ⟨⟨t166, t167, t168, t169⟩, A60, H⟩ := H
        replace H : (if t166 = true then ((num_Reader_Fail.f s0_0 t167 t168 t169 1).bind fun bt170 => (some (0, bt170.1, bt170.2.1, bt170.2.2))) else (some (0, t167, t168, t169))) = some (r1, r2, r3, r4) := H
        have A6 := Aside0.mk A60
        clear A60
        by_cases c7 : t166 = true
        · subst c7
          have H1 : ((num_Reader_Fail.f s0_0 t167 t168 t169 1).bind fun bt170 => (some (0, bt170.1, bt170.2.1, bt170.2.2))) = some (r1, r2, r3, r4) := by rw [if_pos rfl] at H; exact H
          clear H
          have H := H1
          clear H1
          replace H := Option.bind_eq_some_iff.mp H
          obtain ⟨⟨t170, t171, t172⟩, A80, H⟩ := H
          replace H : (some (0, t170, t171, t172)) = some (r1, r2, r3, r4) := H
          have A8 := Aside0.mk A80
          clear A80
          simp only [Option.some.injEq, Prod.mk.injEq] at H
          obtain ⟨rfl, rfl, rfl, rfl⟩ := H
          go_wp2_with (first | ((with_reducible refine gate_callee (f := 71) rfl ?_); refine goesL_ (some 14) rfl rfl Tryd.func71 (by kernel_rfl) rfl #[.pointer (some ⟨g, 0, none⟩)] rfl (by (try simp only [List.map_toArray, List.map_cons, List.map_nil]); first | done | rfl | (simp only [List.length_drop, List.length_take]; rfl)) ?_; (with_reducible refine (num_Reader_ok.calls g s0_0 s0_1 s0_2 s0_3 true t167 t168 t169 w0 _ ?side1 ?side2 A6.out).mono ?_); (case side1 => repeat (first | (with_reducible first | exact HI0.out | apply IsS87.alloc | apply IsS87.drewN | apply IsS87.drew | apply IsS87.set_1 | apply IsS87.set_2 | apply IsS87.set_3) | exact HI0.out)); (case side2 => repeat (first | (with_reducible first | exact HB.out | apply below_alloc | apply pw_below_drewN | apply below_drew1 | refine below_set ?_ (IsS87.ge HI0.out)) | exact HB.out)); rintro e w9 ⟨rfl, hi, hb, hk⟩; refine ⟨_, rfl, ?_⟩; have n0_ := Aside0.mk (KeepBut.trans (by repeat (first | (with_reducible first | exact HK.out | apply KeepBut.set_ | apply keep_drewN | apply keep_drew | apply keep_alloc) | exact HK.out)) hk (.inl rfl)); have n1_ := Aside0.mk (hb); have n2_ := Aside0.mk (hi); clear HK; clear HB; clear HI0; have HK := n0_; have HB := n1_; have HI0 := n2_; clear n0_ n1_ n2_; (try clear hb); (try clear hb2); (try clear hk); (try clear hi)) | ((with_reducible refine gate_callee (f := 38) rfl ?_); refine goesL_ (some 16) rfl rfl Tryd.func38 (by kernel_rfl) rfl #[.pointer (some ⟨g, 0, none⟩), .int .i64 1] rfl (by (try simp only [List.map_toArray, List.map_cons, List.map_nil]); first | done | rfl | (simp only [List.length_drop, List.length_take]; rfl)) ?_; (with_reducible refine (num_Reader_Fail.calls g s0_0 t167 t168 t169 1 t170 t171 t172 w0 _ ?side1 ?side2 A8.out).mono ?_); (case side1 => repeat (first | (with_reducible first | exact HI0.out | apply IsS87.alloc | apply IsS87.drewN | apply IsS87.drew | apply IsS87.set_1 | apply IsS87.set_2 | apply IsS87.set_3) | exact HI0.out)); (case side2 => repeat (first | (with_reducible first | exact HB.out | apply below_alloc | apply pw_below_drewN | apply below_drew1 | refine below_set ?_ (IsS87.ge HI0.out)) | exact HB.out)); rintro e w10 ⟨rfl, hi, hb, hk⟩; refine ⟨_, rfl, ?_⟩; have n0_ := Aside0.mk (KeepBut.trans (by repeat (first | (with_reducible first | exact HK.out | apply KeepBut.set_ | apply keep_drewN | apply keep_drew | apply keep_alloc) | exact HK.out)) hk (.inl rfl)); have n1_ := Aside0.mk (hb); have n2_ := Aside0.mk (hi); clear HK; clear HB; clear HI0; have HK := n0_; have HB := n1_; have HI0 := n2_; clear n0_ n1_ n2_; (try clear hb); (try clear hb2); (try clear hk); (try clear hi)))
          go_ret
          exact ⟨by first | rfl | (simp [errW_none, errW_some] <;> rfl) | (simp [*, errW_none, errW_some] <;> rfl), by repeat (first | (with_reducible first | exact HI0.out | apply IsS87.alloc | apply IsS87.drewN | apply IsS87.drew | apply IsS87.set_1 | apply IsS87.set_2 | apply IsS87.set_3) | exact HI0.out), by repeat (first | (with_reducible first | exact HB.out | apply below_alloc | apply pw_below_drewN | apply below_drew1 | refine below_set ?_ (IsS87.ge HI0.out)) | exact HB.out), by repeat (first | (with_reducible first | exact HK.out | apply KeepBut.set_ | apply keep_drewN | apply keep_drew | apply keep_alloc) | exact HK.out)⟩
        · replace c7 := Bool.eq_false_iff.mpr c7
          subst c7
          have H1 : (some (0, t167, t168, t169)) = some (r1, r2, r3, r4) := by rw [if_neg (show ¬ (false = true) by decide)] at H; exact H
          clear H
          have H := H1
          clear H1
          simp only [Option.some.injEq, Prod.mk.injEq] at H
          obtain ⟨rfl, rfl, rfl, rfl⟩ := H
          go_wp2_with (first | ((with_reducible refine gate_callee (f := 71) rfl ?_); refine goesL_ (some 14) rfl rfl Tryd.func71 (by kernel_rfl) rfl #[.pointer (some ⟨g, 0, none⟩)] rfl (by (try simp only [List.map_toArray, List.map_cons, List.map_nil]); first | done | rfl | (simp only [List.length_drop, List.length_take]; rfl)) ?_; (with_reducible refine (num_Reader_ok.calls g s0_0 s0_1 s0_2 s0_3 false t167 t168 t169 w0 _ ?side1 ?side2 A6.out).mono ?_); (case side1 => repeat (first | (with_reducible first | exact HI0.out | apply IsS87.alloc | apply IsS87.drewN | apply IsS87.drew | apply IsS87.set_1 | apply IsS87.set_2 | apply IsS87.set_3) | exact HI0.out)); (case side2 => repeat (first | (with_reducible first | exact HB.out | apply below_alloc | apply pw_below_drewN | apply below_drew1 | refine below_set ?_ (IsS87.ge HI0.out)) | exact HB.out)); rintro e w11 ⟨rfl, hi, hb, hk⟩; refine ⟨_, rfl, ?_⟩; have n0_ := Aside0.mk (KeepBut.trans (by repeat (first | (with_reducible first | exact HK.out | apply KeepBut.set_ | apply keep_drewN | apply keep_drew | apply keep_alloc) | exact HK.out)) hk (.inl rfl)); have n1_ := Aside0.mk (hb); have n2_ := Aside0.mk (hi); clear HK; clear HB; clear HI0; have HK := n0_; have HB := n1_; have HI0 := n2_; clear n0_ n1_ n2_; (try clear hb); (try clear hb2); (try clear hk); (try clear hi)))
          go_ret
          exact ⟨by first | rfl | (simp [errW_none, errW_some] <;> rfl) | (simp [*, errW_none, errW_some] <;> rfl), by repeat (first | (with_reducible first | exact HI0.out | apply IsS87.alloc | apply IsS87.drewN | apply IsS87.drew | apply IsS87.set_1 | apply IsS87.set_2 | apply IsS87.set_3) | exact HI0.out), by repeat (first | (with_reducible first | exact HB.out | apply below_alloc | apply pw_below_drewN | apply below_drew1 | refine below_set ?_ (IsS87.ge HI0.out)) | exact HB.out), by repeat (first | (with_reducible first | exact HK.out | apply KeepBut.set_ | apply keep_drewN | apply keep_drew | apply keep_alloc) | exact HK.out)⟩
      · replace c5 := Bool.eq_false_iff.mpr c5
        subst c5
        have H1 : ((num_Reader_Take.f s0_0 s0_1 s0_2 s0_3 a1).bind fun bt173 => (if (bt173.1.length : Int) = 8 then (if 7 < (bt173.1.length : Int) then (if 6 < (bt173.1.length : Int) then (if 5 < (bt173.1.length : Int) then (if 4 < (bt173.1.length : Int) then (if 3 < (bt173.1.length : Int) then (if 2 < (bt173.1.length : Int) then (if 1 < (bt173.1.length : Int) then (if 0 < (bt173.1.length : Int) then (some (Go.bits .or .u64 (Go.bits .or .u64 (Go.bits .or .u64 (Go.bits .or .u64 (Go.bits .or .u64 (Go.bits .or .u64 (Go.bits .or .u64 (Go.bits .or .u64 0 (IntKind.u64.wrap ((IntKind.u64.wrap (rd bt173.1 7)) * 72057594037927936))) (IntKind.u64.wrap ((IntKind.u64.wrap (rd bt173.1 6)) * 281474976710656))) (IntKind.u64.wrap ((IntKind.u64.wrap (rd bt173.1 5)) * 1099511627776))) (IntKind.u64.wrap ((IntKind.u64.wrap (rd bt173.1 4)) * 4294967296))) (IntKind.u64.wrap ((IntKind.u64.wrap (rd bt173.1 3)) * 16777216))) (IntKind.u64.wrap ((IntKind.u64.wrap (rd bt173.1 2)) * 65536))) (IntKind.u64.wrap ((IntKind.u64.wrap (rd bt173.1 1)) * 256))) (IntKind.u64.wrap (rd bt173.1 0)), bt173.2.1, bt173.2.2.1, bt173.2.2.2)) else (none)) else (none)) else (none)) else (none)) else (none)) else (none)) else (none)) else (none)) else (if (bt173.1.length : Int) = 7 then (if 6 < (bt173.1.length : Int) then (if 5 < (bt173.1.length : Int) then (if 4 < (bt173.1.length : Int) then (if 3 < (bt173.1.length : Int) then (if 2 < (bt173.1.length : Int) then (if 1 < (bt173.1.length : Int) then (if 0 < (bt173.1.length : Int) then (some (Go.bits .or .u64 (Go.bits .or .u64 (Go.bits .or .u64 (Go.bits .or .u64 (Go.bits .or .u64 (Go.bits .or .u64 (Go.bits .or .u64 0 (IntKind.u64.wrap ((IntKind.u64.wrap (rd bt173.1 6)) * 281474976710656))) (IntKind.u64.wrap ((IntKind.u64.wrap (rd bt173.1 5)) * 1099511627776))) (IntKind.u64.wrap ((IntKind.u64.wrap (rd bt173.1 4)) * 4294967296))) (IntKind.u64.wrap ((IntKind.u64.wrap (rd bt173.1 3)) * 16777216))) (IntKind.u64.wrap ((IntKind.u64.wrap (rd bt173.1 2)) * 65536))) (IntKind.u64.wrap ((IntKind.u64.wrap (rd bt173.1 1)) * 256))) (IntKind.u64.wrap (rd bt173.1 0)), bt173.2.1, bt173.2.2.1, bt173.2.2.2)) else (none)) else (none)) else (none)) else (none)) else (none)) else (none)) else (none)) else (if (bt173.1.length : Int) = 6 then (if 5 < (bt173.1.length : Int) then (if 4 < (bt173.1.length : Int) then (if 3 < (bt173.1.length : Int) then (if 2 < (bt173.1.length : Int) then (if 1 < (bt173.1.length : Int) then (if 0 < (bt173.1.length : Int) then (some (Go.bits .or .u64 (Go.bits .or .u64 (Go.bits .or .u64 (Go.bits .or .u64 (Go.bits .or .u64 (Go.bits .or .u64 0 (IntKind.u64.wrap ((IntKind.u64.wrap (rd bt173.1 5)) * 1099511627776))) (IntKind.u64.wrap ((IntKind.u64.wrap (rd bt173.1 4)) * 4294967296))) (IntKind.u64.wrap ((IntKind.u64.wrap (rd bt173.1 3)) * 16777216))) (IntKind.u64.wrap ((IntKind.u64.wrap (rd bt173.1 2)) * 65536))) (IntKind.u64.wrap ((IntKind.u64.wrap (rd bt173.1 1)) * 256))) (IntKind.u64.wrap (rd bt173.1 0)), bt173.2.1, bt173.2.2.1, bt173.2.2.2)) else (none)) else (none)) else (none)) else (none)) else (none)) else (none)) else (if (bt173.1.length : Int) = 5 then (if 4 < (bt173.1.length : Int) then (if 3 < (bt173.1.length : Int) then (if 2 < (bt173.1.length : Int) then (if 1 < (bt173.1.length : Int) then (if 0 < (bt173.1.length : Int) then (some (Go.bits .or .u64 (Go.bits .or .u64 (Go.bits .or .u64 (Go.bits .or .u64 (Go.bits .or .u64 0 (IntKind.u64.wrap ((IntKind.u64.wrap (rd bt173.1 4)) * 4294967296))) (IntKind.u64.wrap ((IntKind.u64.wrap (rd bt173.1 3)) * 16777216))) (IntKind.u64.wrap ((IntKind.u64.wrap (rd bt173.1 2)) * 65536))) (IntKind.u64.wrap ((IntKind.u64.wrap (rd bt173.1 1)) * 256))) (IntKind.u64.wrap (rd bt173.1 0)), bt173.2.1, bt173.2.2.1, bt173.2.2.2)) else (none)) else (none)) else (none)) else (none)) else (none)) else (if (bt173.1.length : Int) = 4 then (if 3 < (bt173.1.length : Int) then (if 2 < (bt173.1.length : Int) then (if 1 < (bt173.1.length : Int) then (if 0 < (bt173.1.length : Int) then (some (Go.bits .or .u64 (Go.bits .or .u64 (Go.bits .or .u64 (Go.bits .or .u64 0 (IntKind.u64.wrap ((IntKind.u64.wrap (rd bt173.1 3)) * 16777216))) (IntKind.u64.wrap ((IntKind.u64.wrap (rd bt173.1 2)) * 65536))) (IntKind.u64.wrap ((IntKind.u64.wrap (rd bt173.1 1)) * 256))) (IntKind.u64.wrap (rd bt173.1 0)), bt173.2.1, bt173.2.2.1, bt173.2.2.2)) else (none)) else (none)) else (none)) else (none)) else (if (bt173.1.length : Int) = 3 then (if 2 < (bt173.1.length : Int) then (if 1 < (bt173.1.length : Int) then (if 0 < (bt173.1.length : Int) then (some (Go.bits .or .u64 (Go.bits .or .u64 (Go.bits .or .u64 0 (IntKind.u64.wrap ((IntKind.u64.wrap (rd bt173.1 2)) * 65536))) (IntKind.u64.wrap ((IntKind.u64.wrap (rd bt173.1 1)) * 256))) (IntKind.u64.wrap (rd bt173.1 0)), bt173.2.1, bt173.2.2.1, bt173.2.2.2)) else (none)) else (none)) else (none)) else (if (bt173.1.length : Int) = 2 then (if 1 < (bt173.1.length : Int) then (if 0 < (bt173.1.length : Int) then (some (Go.bits .or .u64 (Go.bits .or .u64 0 (IntKind.u64.wrap ((IntKind.u64.wrap (rd bt173.1 1)) * 256))) (IntKind.u64.wrap (rd bt173.1 0)), bt173.2.1, bt173.2.2.1, bt173.2.2.2)) else (none)) else (none)) else (if (bt173.1.length : Int) = 1 then (if 0 < (bt173.1.length : Int) then (some (Go.bits .or .u64 0 (IntKind.u64.wrap (rd bt173.1 0)), bt173.2.1, bt173.2.2.1, bt173.2.2.2)) else (none)) else (some (0, bt173.2.1, bt173.2.2.1, bt173.2.2.2))))))))))) = some (r1, r2, r3, r4) := by rw [if_neg (show ¬ (false = true) by decide)] at H; exact H
        clear H
        have H := H1
        clear H1
        replace H := Option.bind_eq_some_iff.mp H
        obtain ⟨⟨t173, t176, t177, t178⟩, A120, H⟩ := H
        replace H : (if (t173.length : Int) = 8 then (if 7 < (t173.length : Int) then (if 6 < (t173.length : Int) then (if 5 < (t173.length : Int) then (if 4 < (t173.length : Int) then (if 3 < (t173.length : Int) then (if 2 < (t173.length : Int) then (if 1 < (t173.length : Int) then (if 0 < (t173.length : Int) then (some (Go.bits .or .u64 (Go.bits .or .u64 (Go.bits .or .u64 (Go.bits .or .u64 (Go.bits .or .u64 (Go.bits .or .u64 (Go.bits .or .u64 (Go.bits .or .u64 0 (IntKind.u64.wrap ((IntKind.u64.wrap (rd t173 7)) * 72057594037927936))) (IntKind.u64.wrap ((IntKind.u64.wrap (rd t173 6)) * 281474976710656))) (IntKind.u64.wrap ((IntKind.u64.wrap (rd t173 5)) * 1099511627776))) (IntKind.u64.wrap ((IntKind.u64.wrap (rd t173 4)) * 4294967296))) (IntKind.u64.wrap ((IntKind.u64.wrap (rd t173 3)) * 16777216))) (IntKind.u64.wrap ((IntKind.u64.wrap (rd t173 2)) * 65536))) (IntKind.u64.wrap ((IntKind.u64.wrap (rd t173 1)) * 256))) (IntKind.u64.wrap (rd t173 0)), t176, t177, t178)) else (none)) else (none)) else (none)) else (none)) else (none)) else (none)) else (none)) else (none)) else (if (t173.length : Int) = 7 then (if 6 < (t173.length : Int) then (if 5 < (t173.length : Int) then (if 4 < (t173.length : Int) then (if 3 < (t173.length : Int) then (if 2 < (t173.length : Int) then (if 1 < (t173.length : Int) then (if 0 < (t173.length : Int) then (some (Go.bits .or .u64 (Go.bits .or .u64 (Go.bits .or .u64 (Go.bits .or .u64 (Go.bits .or .u64 (Go.bits .or .u64 (Go.bits .or .u64 0 (IntKind.u64.wrap ((IntKind.u64.wrap (rd t173 6)) * 281474976710656))) (IntKind.u64.wrap ((IntKind.u64.wrap (rd t173 5)) * 1099511627776))) (IntKind.u64.wrap ((IntKind.u64.wrap (rd t173 4)) * 4294967296))) (IntKind.u64.wrap ((IntKind.u64.wrap (rd t173 3)) * 16777216))) (IntKind.u64.wrap ((IntKind.u64.wrap (rd t173 2)) * 65536))) (IntKind.u64.wrap ((IntKind.u64.wrap (rd t173 1)) * 256))) (IntKind.u64.wrap (rd t173 0)), t176, t177, t178)) else (none)) else (none)) else (none)) else (none)) else (none)) else (none)) else (none)) else (if (t173.length : Int) = 6 then (if 5 < (t173.length : Int) then (if 4 < (t173.length : Int) then (if 3 < (t173.length : Int) then (if 2 < (t173.length : Int) then (if 1 < (t173.length : Int) then (if 0 < (t173.length : Int) then (some (Go.bits .or .u64 (Go.bits .or .u64 (Go.bits .or .u64 (Go.bits .or .u64 (Go.bits .or .u64 (Go.bits .or .u64 0 (IntKind.u64.wrap ((IntKind.u64.wrap (rd t173 5)) * 1099511627776))) (IntKind.u64.wrap ((IntKind.u64.wrap (rd t173 4)) * 4294967296))) (IntKind.u64.wrap ((IntKind.u64.wrap (rd t173 3)) * 16777216))) (IntKind.u64.wrap ((IntKind.u64.wrap (rd t173 2)) * 65536))) (IntKind.u64.wrap ((IntKind.u64.wrap (rd t173 1)) * 256))) (IntKind.u64.wrap (rd t173 0)), t176, t177, t178)) else (none)) else (none)) else (none)) else (none)) else (none)) else (none)) else (if (t173.length : Int) = 5 then (if 4 < (t173.length : Int) then (if 3 < (t173.length : Int) then (if 2 < (t173.length : Int) then (if 1 < (t173.length : Int) then (if 0 < (t173.length : Int) then (some (Go.bits .or .u64 (Go.bits .or .u64 (Go.bits .or .u64 (Go.bits .or .u64 (Go.bits .or .u64 0 (IntKind.u64.wrap ((IntKind.u64.wrap (rd t173 4)) * 4294967296))) (IntKind.u64.wrap ((IntKind.u64.wrap (rd t173 3)) * 16777216))) (IntKind.u64.wrap ((IntKind.u64.wrap (rd t173 2)) * 65536))) (IntKind.u64.wrap ((IntKind.u64.wrap (rd t173 1)) * 256))) (IntKind.u64.wrap (rd t173 0)), t176, t177, t178)) else (none)) else (none)) else (none)) else (none)) else (none)) else (if (t173.length : Int) = 4 then (if 3 < (t173.length : Int) then (if 2 < (t173.length : Int) then (if 1 < (t173.length : Int) then (if 0 < (t173.length : Int) then (some (Go.bits .or .u64 (Go.bits .or .u64 (Go.bits .or .u64 (Go.bits .or .u64 0 (IntKind.u64.wrap ((IntKind.u64.wrap (rd t173 3)) * 16777216))) (IntKind.u64.wrap ((IntKind.u64.wrap (rd t173 2)) * 65536))) (IntKind.u64.wrap ((IntKind.u64.wrap (rd t173 1)) * 256))) (IntKind.u64.wrap (rd t173 0)), t176, t177, t178)) else (none)) else (none)) else (none)) else (none)) else (if (t173.length : Int) = 3 then (if 2 < (t173.length : Int) then (if 1 < (t173.length : Int) then (if 0 < (t173.length : Int) then (some (Go.bits .or .u64 (Go.bits .or .u64 (Go.bits .or .u64 0 (IntKind.u64.wrap ((IntKind.u64.wrap (rd t173 2)) * 65536))) (IntKind.u64.wrap ((IntKind.u64.wrap (rd t173 1)) * 256))) (IntKind.u64.wrap (rd t173 0)), t176, t177, t178)) else (none)) else (none)) else (none)) else (if (t173.length : Int) = 2 then (if 1 < (t173.length : Int) then (if 0 < (t173.length : Int) then (some (Go.bits .or .u64 (Go.bits .or .u64 0 (IntKind.u64.wrap ((IntKind.u64.wrap (rd t173 1)) * 256))) (IntKind.u64.wrap (rd t173 0)), t176, t177, t178)) else (none)) else (none)) else (if (t173.length : Int) = 1 then (if 0 < (t173.length : Int) then (some (Go.bits .or .u64 0 (IntKind.u64.wrap (rd t173 0)), t176, t177, t178)) else (none)) else (some (0, t176, t177, t178)))))))))) = some (r1, r2, r3, r4) := H
        have A12 := Aside0.mk A120
        clear A120
        by_cases c13 : (t173.length : Int) = 8
        · rw [if_pos c13] at H
          have c13b0 : ((t173.length : Int) == 8) = true := beq_iff_eq.mpr c13
          have c13b1 : ((t173.length : Int) != 8) = false := bne_eq_false_iff_eq.mpr c13
          clear c13
          by_cases c14 : 7 < (t173.length : Int)
          · rw [if_pos c14] at H
            have c14b0 : decide (7 < (t173.length : Int)) = true := decide_eq_true c14
            have c14b1 : decide (7 < t173.length) = true := decide_eq_true (by omega)
            clear c14
            by_cases c15 : 6 < (t173.length : Int)
            · rw [if_pos c15] at H
              have c15b0 : decide (6 < (t173.length : Int)) = true := decide_eq_true c15
              have c15b1 : decide (6 < t173.length) = true := decide_eq_true (by omega)
              clear c15
              by_cases c16 : 5 < (t173.length : Int)
              · rw [if_pos c16] at H
                have c16b0 : decide (5 < (t173.length : Int)) = true := decide_eq_true c16
                have c16b1 : decide (5 < t173.length) = true := decide_eq_true (by omega)
                clear c16
                by_cases c17 : 4 < (t173.length : Int)
                · rw [if_pos c17] at H
                  have c17b0 : decide (4 < (t173.length : Int)) = true := decide_eq_true c17
                  have c17b1 : decide (4 < t173.length) = true := decide_eq_true (by omega)
                  clear c17
                  by_cases c18 : 3 < (t173.length : Int)
                  · rw [if_pos c18] at H
                    have c18b0 : decide (3 < (t173.length : Int)) = true := decide_eq_true c18
                    have c18b1 : decide (3 < t173.length) = true := decide_eq_true (by omega)
                    clear c18
                    by_cases c19 : 2 < (t173.length : Int)
                    · rw [if_pos c19] at H
                      have c19b0 : decide (2 < (t173.length : Int)) = true := decide_eq_true c19
                      have c19b1 : decide (2 < t173.length) = true := decide_eq_true (by omega)
                      clear c19
                      by_cases c20 : 1 < (t173.length : Int)
                      · rw [if_pos c20] at H
                        have c20b0 : decide (1 < (t173.length : Int)) = true := decide_eq_true c20
                        have c20b1 : decide (1 < t173.length) = true := decide_eq_true (by omega)
                        clear c20
                        by_cases c21 : 0 < (t173.length : Int)
                        · rw [if_pos c21] at H
                          have c21b0 : decide (0 < (t173.length : Int)) = true := decide_eq_true c21
                          have c21b1 : decide (0 < t173.length) = true := decide_eq_true (by omega)
                          clear c21
                          simp only [Option.some.injEq, Prod.mk.injEq] at H
                          obtain ⟨rfl, rfl, rfl, rfl⟩ := H
                          go_wp2_with (first | ((with_reducible refine gate_callee (f := 41) rfl ?_); refine goesL_ (some 19) rfl rfl Tryd.func41 (by kernel_rfl) rfl #[.pointer (some ⟨g, 0, none⟩), .int .i64 a1] rfl (by (try simp only [List.map_toArray, List.map_cons, List.map_nil]); first | done | rfl | (simp only [List.length_drop, List.length_take]; rfl)) ?_; (with_reducible refine (num_Reader_Take.calls g s0_0 s0_1 s0_2 s0_3 a1 t173 t176 t177 t178 w0 _ ?side1 ?side2 A12.out).mono ?_); (case side1 => repeat (first | (with_reducible first | exact HI0.out | apply IsS87.alloc | apply IsS87.drewN | apply IsS87.drew | apply IsS87.set_1 | apply IsS87.set_2 | apply IsS87.set_3) | exact HI0.out)); (case side2 => repeat (first | (with_reducible first | exact HB.out | apply below_alloc | apply pw_below_drewN | apply below_drew1 | refine below_set ?_ (IsS87.ge HI0.out)) | exact HB.out)); rintro e w22 ⟨v174, rfl, ho0, hi, hb, hk⟩; refine ⟨_, rfl, ?_⟩; have n0_ := Aside0.mk (Kd.R_lower ho0 (keep_size (w := w) (g := g) (row := none) (by repeat (first | (with_reducible first | exact HK.out | apply KeepBut.set_ | apply keep_drewN | apply keep_drew | apply keep_alloc) | exact HK.out)))); have n1_ := Aside0.mk (KeepBut.trans (by repeat (first | (with_reducible first | exact HK.out | apply KeepBut.set_ | apply keep_drewN | apply keep_drew | apply keep_alloc) | exact HK.out)) hk (.inl rfl)); have n2_ := Aside0.mk (hb); have n3_ := Aside0.mk (hi); clear HK; clear HB; clear HI0; have HO175 := n0_; have HK := n1_; have HB := n2_; have HI0 := n3_; clear n0_ n1_ n2_ n3_; (try clear hb); (try clear hb2); (try clear hk); (try clear hi); (try clear ho0); obtain ⟨Ao23, co23, eo23⟩ := Kd.R_slice HO175.out; subst eo23; have p179 : 0 ≤ (7 : Int) := (by omega); have q179 : 7 < (t173.length : Int) := of_decide_eq_true (by first | (with_reducible assumption) | assumption); obtain ⟨ad179, e179, hx179_0⟩ := Kd.at_int (Kd.R_reads' HO175.out).2.2 7 p179 q179; cases e179; (try simp only [show (7 : Int).toNat = 7 from rfl, Nat.reduceMul, Nat.reduceEqDiff, Go.Addr.add, ↓reduceIte] at hx179_0); have qi179 : (7 < t173.length) = True := eq_true (by omega); (try rw [show ((7 : Int)).toNat = 7 from rfl] at hx179_0); replace p179 := eq_true p179; replace q179 := eq_true q179; have p180 : 0 ≤ (6 : Int) := (by omega); have q180 : 6 < (t173.length : Int) := of_decide_eq_true (by first | (with_reducible assumption) | assumption); obtain ⟨ad180, e180, hx180_0⟩ := Kd.at_int (Kd.R_reads' HO175.out).2.2 6 p180 q180; obtain rfl : ad179 = ad180 := (by injection e180); (try simp only [show (6 : Int).toNat = 6 from rfl, Nat.reduceMul, Nat.reduceEqDiff, Go.Addr.add, ↓reduceIte] at hx180_0); have qi180 : (6 < t173.length) = True := eq_true (by omega); (try rw [show ((6 : Int)).toNat = 6 from rfl] at hx180_0); replace p180 := eq_true p180; replace q180 := eq_true q180; have p181 : 0 ≤ (5 : Int) := (by omega); have q181 : 5 < (t173.length : Int) := of_decide_eq_true (by first | (with_reducible assumption) | assumption); obtain ⟨ad181, e181, hx181_0⟩ := Kd.at_int (Kd.R_reads' HO175.out).2.2 5 p181 q181; obtain rfl : ad179 = ad181 := (by injection e181); (try simp only [show (5 : Int).toNat = 5 from rfl, Nat.reduceMul, Nat.reduceEqDiff, Go.Addr.add, ↓reduceIte] at hx181_0); have qi181 : (5 < t173.length) = True := eq_true (by omega); (try rw [show ((5 : Int)).toNat = 5 from rfl] at hx181_0); replace p181 := eq_true p181; replace q181 := eq_true q181; have p182 : 0 ≤ (4 : Int) := (by omega); have q182 : 4 < (t173.length : Int) := of_decide_eq_true (by first | (with_reducible assumption) | assumption); obtain ⟨ad182, e182, hx182_0⟩ := Kd.at_int (Kd.R_reads' HO175.out).2.2 4 p182 q182; obtain rfl : ad179 = ad182 := (by injection e182); (try simp only [show (4 : Int).toNat = 4 from rfl, Nat.reduceMul, Nat.reduceEqDiff, Go.Addr.add, ↓reduceIte] at hx182_0); have qi182 : (4 < t173.length) = True := eq_true (by omega); (try rw [show ((4 : Int)).toNat = 4 from rfl] at hx182_0); replace p182 := eq_true p182; replace q182 := eq_true q182; have p183 : 0 ≤ (3 : Int) := (by omega); have q183 : 3 < (t173.length : Int) := of_decide_eq_true (by first | (with_reducible assumption) | assumption); obtain ⟨ad183, e183, hx183_0⟩ := Kd.at_int (Kd.R_reads' HO175.out).2.2 3 p183 q183; obtain rfl : ad179 = ad183 := (by injection e183); (try simp only [show (3 : Int).toNat = 3 from rfl, Nat.reduceMul, Nat.reduceEqDiff, Go.Addr.add, ↓reduceIte] at hx183_0); have qi183 : (3 < t173.length) = True := eq_true (by omega); (try rw [show ((3 : Int)).toNat = 3 from rfl] at hx183_0); replace p183 := eq_true p183; replace q183 := eq_true q183; have p184 : 0 ≤ (2 : Int) := (by omega); have q184 : 2 < (t173.length : Int) := of_decide_eq_true (by first | (with_reducible assumption) | assumption); obtain ⟨ad184, e184, hx184_0⟩ := Kd.at_int (Kd.R_reads' HO175.out).2.2 2 p184 q184; obtain rfl : ad179 = ad184 := (by injection e184); (try simp only [show (2 : Int).toNat = 2 from rfl, Nat.reduceMul, Nat.reduceEqDiff, Go.Addr.add, ↓reduceIte] at hx184_0); have qi184 : (2 < t173.length) = True := eq_true (by omega); (try rw [show ((2 : Int)).toNat = 2 from rfl] at hx184_0); replace p184 := eq_true p184; replace q184 := eq_true q184; have p185 : 0 ≤ (1 : Int) := (by omega); have q185 : 1 < (t173.length : Int) := of_decide_eq_true (by first | (with_reducible assumption) | assumption); obtain ⟨ad185, e185, hx185_0⟩ := Kd.at_int (Kd.R_reads' HO175.out).2.2 1 p185 q185; obtain rfl : ad179 = ad185 := (by injection e185); (try simp only [show (1 : Int).toNat = 1 from rfl, Nat.reduceMul, Nat.reduceEqDiff, Go.Addr.add, ↓reduceIte] at hx185_0); have qi185 : (1 < t173.length) = True := eq_true (by omega); (try rw [show ((1 : Int)).toNat = 1 from rfl] at hx185_0); replace p185 := eq_true p185; replace q185 := eq_true q185; have p186 : 0 ≤ (0 : Int) := (by omega); have q186 : 0 < (t173.length : Int) := of_decide_eq_true (by first | (with_reducible assumption) | assumption); obtain ⟨ad186, e186, hx186_0⟩ := Kd.at_int (Kd.R_reads' HO175.out).2.2 0 p186 q186; obtain rfl : ad179 = ad186 := (by injection e186); have qi186 : (0 < t173.length) = True := eq_true (by omega); (try rw [show ((0 : Int)).toNat = 0 from rfl] at hx186_0); (try rw [Addr.add_zero'] at hx186_0); replace p186 := eq_true p186; replace q186 := eq_true q186))
                          go_ret
                          exact ⟨by first | rfl | (simp [errW_none, errW_some] <;> rfl) | (simp [*, errW_none, errW_some] <;> rfl), by repeat (first | (with_reducible first | exact HI0.out | apply IsS87.alloc | apply IsS87.drewN | apply IsS87.drew | apply IsS87.set_1 | apply IsS87.set_2 | apply IsS87.set_3) | exact HI0.out), by repeat (first | (with_reducible first | exact HB.out | apply below_alloc | apply pw_below_drewN | apply below_drew1 | refine below_set ?_ (IsS87.ge HI0.out)) | exact HB.out), by repeat (first | (with_reducible first | exact HK.out | apply KeepBut.set_ | apply keep_drewN | apply keep_drew | apply keep_alloc) | exact HK.out)⟩
                        · rw [if_neg c21] at H
                          exact absurd H (by simp)
                      · rw [if_neg c20] at H
                        exact absurd H (by simp)
                    · rw [if_neg c19] at H
                      exact absurd H (by simp)
                  · rw [if_neg c18] at H
                    exact absurd H (by simp)
                · rw [if_neg c17] at H
                  exact absurd H (by simp)
              · rw [if_neg c16] at H
                exact absurd H (by simp)
            · rw [if_neg c15] at H
              exact absurd H (by simp)
          · rw [if_neg c14] at H
            exact absurd H (by simp)
        · rw [if_neg c13] at H
          have c13b0 : ((t173.length : Int) == 8) = false := beq_eq_false_iff_ne.mpr c13
          have c13b1 : ((t173.length : Int) != 8) = true := bne_iff_ne.mpr c13
          by_cases c24 : (t173.length : Int) = 7
          · rw [if_pos c24] at H
            have c24b0 : ((t173.length : Int) == 7) = true := beq_iff_eq.mpr c24
            have c24b1 : ((t173.length : Int) != 7) = false := bne_eq_false_iff_eq.mpr c24
            clear c24
            by_cases c25 : 6 < (t173.length : Int)
            · rw [if_pos c25] at H
              have c25b0 : decide (6 < (t173.length : Int)) = true := decide_eq_true c25
              have c25b1 : decide (6 < t173.length) = true := decide_eq_true (by omega)
              clear c25
              by_cases c26 : 5 < (t173.length : Int)
              · rw [if_pos c26] at H
                have c26b0 : decide (5 < (t173.length : Int)) = true := decide_eq_true c26
                have c26b1 : decide (5 < t173.length) = true := decide_eq_true (by omega)
                clear c26
                by_cases c27 : 4 < (t173.length : Int)
                · rw [if_pos c27] at H
                  have c27b0 : decide (4 < (t173.length : Int)) = true := decide_eq_true c27
                  have c27b1 : decide (4 < t173.length) = true := decide_eq_true (by omega)
                  clear c27
                  by_cases c28 : 3 < (t173.length : Int)
                  · rw [if_pos c28] at H
                    have c28b0 : decide (3 < (t173.length : Int)) = true := decide_eq_true c28
                    have c28b1 : decide (3 < t173.length) = true := decide_eq_true (by omega)
                    clear c28
                    by_cases c29 : 2 < (t173.length : Int)
                    · rw [if_pos c29] at H
                      have c29b0 : decide (2 < (t173.length : Int)) = true := decide_eq_true c29
                      have c29b1 : decide (2 < t173.length) = true := decide_eq_true (by omega)
                      clear c29
                      by_cases c30 : 1 < (t173.length : Int)
                      · rw [if_pos c30] at H
                        have c30b0 : decide (1 < (t173.length : Int)) = true := decide_eq_true c30
                        have c30b1 : decide (1 < t173.length) = true := decide_eq_true (by omega)
                        clear c30
                        by_cases c31 : 0 < (t173.length : Int)
                        · rw [if_pos c31] at H
                          have c31b0 : decide (0 < (t173.length : Int)) = true := decide_eq_true c31
                          have c31b1 : decide (0 < t173.length) = true := decide_eq_true (by omega)
                          clear c31
                          simp only [Option.some.injEq, Prod.mk.injEq] at H
                          obtain ⟨rfl, rfl, rfl, rfl⟩ := H
                          go_wp2_with (first | ((with_reducible refine gate_callee (f := 41) rfl ?_); refine goesL_ (some 19) rfl rfl Tryd.func41 (by kernel_rfl) rfl #[.pointer (some ⟨g, 0, none⟩), .int .i64 a1] rfl (by (try simp only [List.map_toArray, List.map_cons, List.map_nil]); first | done | rfl | (simp only [List.length_drop, List.length_take]; rfl)) ?_; (with_reducible refine (num_Reader_Take.calls g s0_0 s0_1 s0_2 s0_3 a1 t173 t176 t177 t178 w0 _ ?side1 ?side2 A12.out).mono ?_); (case side1 => repeat (first | (with_reducible first | exact HI0.out | apply IsS87.alloc | apply IsS87.drewN | apply IsS87.drew | apply IsS87.set_1 | apply IsS87.set_2 | apply IsS87.set_3) | exact HI0.out)); (case side2 => repeat (first | (with_reducible first | exact HB.out | apply below_alloc | apply pw_below_drewN | apply below_drew1 | refine below_set ?_ (IsS87.ge HI0.out)) | exact HB.out)); rintro e w32 ⟨v174, rfl, ho0, hi, hb, hk⟩; refine ⟨_, rfl, ?_⟩; have n0_ := Aside0.mk (Kd.R_lower ho0 (keep_size (w := w) (g := g) (row := none) (by repeat (first | (with_reducible first | exact HK.out | apply KeepBut.set_ | apply keep_drewN | apply keep_drew | apply keep_alloc) | exact HK.out)))); have n1_ := Aside0.mk (KeepBut.trans (by repeat (first | (with_reducible first | exact HK.out | apply KeepBut.set_ | apply keep_drewN | apply keep_drew | apply keep_alloc) | exact HK.out)) hk (.inl rfl)); have n2_ := Aside0.mk (hb); have n3_ := Aside0.mk (hi); clear HK; clear HB; clear HI0; have HO175 := n0_; have HK := n1_; have HB := n2_; have HI0 := n3_; clear n0_ n1_ n2_ n3_; (try clear hb); (try clear hb2); (try clear hk); (try clear hi); (try clear ho0); obtain ⟨Ao33, co33, eo33⟩ := Kd.R_slice HO175.out; subst eo33; have p187 : 0 ≤ (6 : Int) := (by omega); have q187 : 6 < (t173.length : Int) := of_decide_eq_true (by first | (with_reducible assumption) | assumption); obtain ⟨ad187, e187, hx187_0⟩ := Kd.at_int (Kd.R_reads' HO175.out).2.2 6 p187 q187; cases e187; (try simp only [show (6 : Int).toNat = 6 from rfl, Nat.reduceMul, Nat.reduceEqDiff, Go.Addr.add, ↓reduceIte] at hx187_0); have qi187 : (6 < t173.length) = True := eq_true (by omega); (try rw [show ((6 : Int)).toNat = 6 from rfl] at hx187_0); replace p187 := eq_true p187; replace q187 := eq_true q187; have p188 : 0 ≤ (5 : Int) := (by omega); have q188 : 5 < (t173.length : Int) := of_decide_eq_true (by first | (with_reducible assumption) | assumption); obtain ⟨ad188, e188, hx188_0⟩ := Kd.at_int (Kd.R_reads' HO175.out).2.2 5 p188 q188; obtain rfl : ad187 = ad188 := (by injection e188); (try simp only [show (5 : Int).toNat = 5 from rfl, Nat.reduceMul, Nat.reduceEqDiff, Go.Addr.add, ↓reduceIte] at hx188_0); have qi188 : (5 < t173.length) = True := eq_true (by omega); (try rw [show ((5 : Int)).toNat = 5 from rfl] at hx188_0); replace p188 := eq_true p188; replace q188 := eq_true q188; have p189 : 0 ≤ (4 : Int) := (by omega); have q189 : 4 < (t173.length : Int) := of_decide_eq_true (by first | (with_reducible assumption) | assumption); obtain ⟨ad189, e189, hx189_0⟩ := Kd.at_int (Kd.R_reads' HO175.out).2.2 4 p189 q189; obtain rfl : ad187 = ad189 := (by injection e189); (try simp only [show (4 : Int).toNat = 4 from rfl, Nat.reduceMul, Nat.reduceEqDiff, Go.Addr.add, ↓reduceIte] at hx189_0); have qi189 : (4 < t173.length) = True := eq_true (by omega); (try rw [show ((4 : Int)).toNat = 4 from rfl] at hx189_0); replace p189 := eq_true p189; replace q189 := eq_true q189; have p190 : 0 ≤ (3 : Int) := (by omega); have q190 : 3 < (t173.length : Int) := of_decide_eq_true (by first | (with_reducible assumption) | assumption); obtain ⟨ad190, e190, hx190_0⟩ := Kd.at_int (Kd.R_reads' HO175.out).2.2 3 p190 q190; obtain rfl : ad187 = ad190 := (by injection e190); (try simp only [show (3 : Int).toNat = 3 from rfl, Nat.reduceMul, Nat.reduceEqDiff, Go.Addr.add, ↓reduceIte] at hx190_0); have qi190 : (3 < t173.length) = True := eq_true (by omega); (try rw [show ((3 : Int)).toNat = 3 from rfl] at hx190_0); replace p190 := eq_true p190; replace q190 := eq_true q190; have p191 : 0 ≤ (2 : Int) := (by omega); have q191 : 2 < (t173.length : Int) := of_decide_eq_true (by first | (with_reducible assumption) | assumption); obtain ⟨ad191, e191, hx191_0⟩ := Kd.at_int (Kd.R_reads' HO175.out).2.2 2 p191 q191; obtain rfl : ad187 = ad191 := (by injection e191); (try simp only [show (2 : Int).toNat = 2 from rfl, Nat.reduceMul, Nat.reduceEqDiff, Go.Addr.add, ↓reduceIte] at hx191_0); have qi191 : (2 < t173.length) = True := eq_true (by omega); (try rw [show ((2 : Int)).toNat = 2 from rfl] at hx191_0); replace p191 := eq_true p191; replace q191 := eq_true q191; have p192 : 0 ≤ (1 : Int) := (by omega); have q192 : 1 < (t173.length : Int) := of_decide_eq_true (by first | (with_reducible assumption) | assumption); obtain ⟨ad192, e192, hx192_0⟩ := Kd.at_int (Kd.R_reads' HO175.out).2.2 1 p192 q192; obtain rfl : ad187 = ad192 := (by injection e192); (try simp only [show (1 : Int).toNat = 1 from rfl, Nat.reduceMul, Nat.reduceEqDiff, Go.Addr.add, ↓reduceIte] at hx192_0); have qi192 : (1 < t173.length) = True := eq_true (by omega); (try rw [show ((1 : Int)).toNat = 1 from rfl] at hx192_0); replace p192 := eq_true p192; replace q192 := eq_true q192; have p193 : 0 ≤ (0 : Int) := (by omega); have q193 : 0 < (t173.length : Int) := of_decide_eq_true (by first | (with_reducible assumption) | assumption); obtain ⟨ad193, e193, hx193_0⟩ := Kd.at_int (Kd.R_reads' HO175.out).2.2 0 p193 q193; obtain rfl : ad187 = ad193 := (by injection e193); have qi193 : (0 < t173.length) = True := eq_true (by omega); (try rw [show ((0 : Int)).toNat = 0 from rfl] at hx193_0); (try rw [Addr.add_zero'] at hx193_0); replace p193 := eq_true p193; replace q193 := eq_true q193))
                          go_ret
                          exact ⟨by first | rfl | (simp [errW_none, errW_some] <;> rfl) | (simp [*, errW_none, errW_some] <;> rfl), by repeat (first | (with_reducible first | exact HI0.out | apply IsS87.alloc | apply IsS87.drewN | apply IsS87.drew | apply IsS87.set_1 | apply IsS87.set_2 | apply IsS87.set_3) | exact HI0.out), by repeat (first | (with_reducible first | exact HB.out | apply below_alloc | apply pw_below_drewN | apply below_drew1 | refine below_set ?_ (IsS87.ge HI0.out)) | exact HB.out), by repeat (first | (with_reducible first | exact HK.out | apply KeepBut.set_ | apply keep_drewN | apply keep_drew | apply keep_alloc) | exact HK.out)⟩
                        · rw [if_neg c31] at H
                          exact absurd H (by simp)
                      · rw [if_neg c30] at H
                        exact absurd H (by simp)
                    · rw [if_neg c29] at H
                      exact absurd H (by simp)
                  · rw [if_neg c28] at H
                    exact absurd H (by simp)
                · rw [if_neg c27] at H
                  exact absurd H (by simp)
              · rw [if_neg c26] at H
                exact absurd H (by simp)
            · rw [if_neg c25] at H
              exact absurd H (by simp)
          · rw [if_neg c24] at H
            have c24b0 : ((t173.length : Int) == 7) = false := beq_eq_false_iff_ne.mpr c24
            have c24b1 : ((t173.length : Int) != 7) = true := bne_iff_ne.mpr c24
            by_cases c34 : (t173.length : Int) = 6
            · rw [if_pos c34] at H
              have c34b0 : ((t173.length : Int) == 6) = true := beq_iff_eq.mpr c34
              have c34b1 : ((t173.length : Int) != 6) = false := bne_eq_false_iff_eq.mpr c34
              clear c34
              by_cases c35 : 5 < (t173.length : Int)
              · rw [if_pos c35] at H
                have c35b0 : decide (5 < (t173.length : Int)) = true := decide_eq_true c35
                have c35b1 : decide (5 < t173.length) = true := decide_eq_true (by omega)
                clear c35
                by_cases c36 : 4 < (t173.length : Int)
                · rw [if_pos c36] at H
                  have c36b0 : decide (4 < (t173.length : Int)) = true := decide_eq_true c36
                  have c36b1 : decide (4 < t173.length) = true := decide_eq_true (by omega)
                  clear c36
                  by_cases c37 : 3 < (t173.length : Int)
                  · rw [if_pos c37] at H
                    have c37b0 : decide (3 < (t173.length : Int)) = true := decide_eq_true c37
                    have c37b1 : decide (3 < t173.length) = true := decide_eq_true (by omega)
                    clear c37
                    by_cases c38 : 2 < (t173.length : Int)
                    · rw [if_pos c38] at H
                      have c38b0 : decide (2 < (t173.length : Int)) = true := decide_eq_true c38
                      have c38b1 : decide (2 < t173.length) = true := decide_eq_true (by omega)
                      clear c38
                      by_cases c39 : 1 < (t173.length : Int)
                      · rw [if_pos c39] at H
                        have c39b0 : decide (1 < (t173.length : Int)) = true := decide_eq_true c39
                        have c39b1 : decide (1 < t173.length) = true := decide_eq_true (by omega)
                        clear c39
                        by_cases c40 : 0 < (t173.length : Int)
                        · rw [if_pos c40] at H
                          have c40b0 : decide (0 < (t173.length : Int)) = true := decide_eq_true c40
                          have c40b1 : decide (0 < t173.length) = true := decide_eq_true (by omega)
                          clear c40
                          simp only [Option.some.injEq, Prod.mk.injEq] at H
                          obtain ⟨rfl, rfl, rfl, rfl⟩ := H
                          go_wp2_with (first | ((with_reducible refine gate_callee (f := 41) rfl ?_); refine goesL_ (some 19) rfl rfl Tryd.func41 (by kernel_rfl) rfl #[.pointer (some ⟨g, 0, none⟩), .int .i64 a1] rfl (by (try simp only [List.map_toArray, List.map_cons, List.map_nil]); first | done | rfl | (simp only [List.length_drop, List.length_take]; rfl)) ?_; (with_reducible refine (num_Reader_Take.calls g s0_0 s0_1 s0_2 s0_3 a1 t173 t176 t177 t178 w0 _ ?side1 ?side2 A12.out).mono ?_); (case side1 => repeat (first | (with_reducible first | exact HI0.out | apply IsS87.alloc | apply IsS87.drewN | apply IsS87.drew | apply IsS87.set_1 | apply IsS87.set_2 | apply IsS87.set_3) | exact HI0.out)); (case side2 => repeat (first | (with_reducible first | exact HB.out | apply below_alloc | apply pw_below_drewN | apply below_drew1 | refine below_set ?_ (IsS87.ge HI0.out)) | exact HB.out)); rintro e w41 ⟨v174, rfl, ho0, hi, hb, hk⟩; refine ⟨_, rfl, ?_⟩; have n0_ := Aside0.mk (Kd.R_lower ho0 (keep_size (w := w) (g := g) (row := none) (by repeat (first | (with_reducible first | exact HK.out | apply KeepBut.set_ | apply keep_drewN | apply keep_drew | apply keep_alloc) | exact HK.out)))); have n1_ := Aside0.mk (KeepBut.trans (by repeat (first | (with_reducible first | exact HK.out | apply KeepBut.set_ | apply keep_drewN | apply keep_drew | apply keep_alloc) | exact HK.out)) hk (.inl rfl)); have n2_ := Aside0.mk (hb); have n3_ := Aside0.mk (hi); clear HK; clear HB; clear HI0; have HO175 := n0_; have HK := n1_; have HB := n2_; have HI0 := n3_; clear n0_ n1_ n2_ n3_; (try clear hb); (try clear hb2); (try clear hk); (try clear hi); (try clear ho0); obtain ⟨Ao42, co42, eo42⟩ := Kd.R_slice HO175.out; subst eo42; have p194 : 0 ≤ (5 : Int) := (by omega); have q194 : 5 < (t173.length : Int) := of_decide_eq_true (by first | (with_reducible assumption) | assumption); obtain ⟨ad194, e194, hx194_0⟩ := Kd.at_int (Kd.R_reads' HO175.out).2.2 5 p194 q194; cases e194; (try simp only [show (5 : Int).toNat = 5 from rfl, Nat.reduceMul, Nat.reduceEqDiff, Go.Addr.add, ↓reduceIte] at hx194_0); have qi194 : (5 < t173.length) = True := eq_true (by omega); (try rw [show ((5 : Int)).toNat = 5 from rfl] at hx194_0); replace p194 := eq_true p194; replace q194 := eq_true q194; have p195 : 0 ≤ (4 : Int) := (by omega); have q195 : 4 < (t173.length : Int) := of_decide_eq_true (by first | (with_reducible assumption) | assumption); obtain ⟨ad195, e195, hx195_0⟩ := Kd.at_int (Kd.R_reads' HO175.out).2.2 4 p195 q195; obtain rfl : ad194 = ad195 := (by injection e195); (try simp only [show (4 : Int).toNat = 4 from rfl, Nat.reduceMul, Nat.reduceEqDiff, Go.Addr.add, ↓reduceIte] at hx195_0); have qi195 : (4 < t173.length) = True := eq_true (by omega); (try rw [show ((4 : Int)).toNat = 4 from rfl] at hx195_0); replace p195 := eq_true p195; replace q195 := eq_true q195; have p196 : 0 ≤ (3 : Int) := (by omega); have q196 : 3 < (t173.length : Int) := of_decide_eq_true (by first | (with_reducible assumption) | assumption); obtain ⟨ad196, e196, hx196_0⟩ := Kd.at_int (Kd.R_reads' HO175.out).2.2 3 p196 q196; obtain rfl : ad194 = ad196 := (by injection e196); (try simp only [show (3 : Int).toNat = 3 from rfl, Nat.reduceMul, Nat.reduceEqDiff, Go.Addr.add, ↓reduceIte] at hx196_0); have qi196 : (3 < t173.length) = True := eq_true (by omega); (try rw [show ((3 : Int)).toNat = 3 from rfl] at hx196_0); replace p196 := eq_true p196; replace q196 := eq_true q196; have p197 : 0 ≤ (2 : Int) := (by omega); have q197 : 2 < (t173.length : Int) := of_decide_eq_true (by first | (with_reducible assumption) | assumption); obtain ⟨ad197, e197, hx197_0⟩ := Kd.at_int (Kd.R_reads' HO175.out).2.2 2 p197 q197; obtain rfl : ad194 = ad197 := (by injection e197); (try simp only [show (2 : Int).toNat = 2 from rfl, Nat.reduceMul, Nat.reduceEqDiff, Go.Addr.add, ↓reduceIte] at hx197_0); have qi197 : (2 < t173.length) = True := eq_true (by omega); (try rw [show ((2 : Int)).toNat = 2 from rfl] at hx197_0); replace p197 := eq_true p197; replace q197 := eq_true q197; have p198 : 0 ≤ (1 : Int) := (by omega); have q198 : 1 < (t173.length : Int) := of_decide_eq_true (by first | (with_reducible assumption) | assumption); obtain ⟨ad198, e198, hx198_0⟩ := Kd.at_int (Kd.R_reads' HO175.out).2.2 1 p198 q198; obtain rfl : ad194 = ad198 := (by injection e198); (try simp only [show (1 : Int).toNat = 1 from rfl, Nat.reduceMul, Nat.reduceEqDiff, Go.Addr.add, ↓reduceIte] at hx198_0); have qi198 : (1 < t173.length) = True := eq_true (by omega); (try rw [show ((1 : Int)).toNat = 1 from rfl] at hx198_0); replace p198 := eq_true p198; replace q198 := eq_true q198; have p199 : 0 ≤ (0 : Int) := (by omega); have q199 : 0 < (t173.length : Int) := of_decide_eq_true (by first | (with_reducible assumption) | assumption); obtain ⟨ad199, e199, hx199_0⟩ := Kd.at_int (Kd.R_reads' HO175.out).2.2 0 p199 q199; obtain rfl : ad194 = ad199 := (by injection e199); have qi199 : (0 < t173.length) = True := eq_true (by omega); (try rw [show ((0 : Int)).toNat = 0 from rfl] at hx199_0); (try rw [Addr.add_zero'] at hx199_0); replace p199 := eq_true p199; replace q199 := eq_true q199))
                          go_ret
                          exact ⟨by first | rfl | (simp [errW_none, errW_some] <;> rfl) | (simp [*, errW_none, errW_some] <;> rfl), by repeat (first | (with_reducible first | exact HI0.out | apply IsS87.alloc | apply IsS87.drewN | apply IsS87.drew | apply IsS87.set_1 | apply IsS87.set_2 | apply IsS87.set_3) | exact HI0.out), by repeat (first | (with_reducible first | exact HB.out | apply below_alloc | apply pw_below_drewN | apply below_drew1 | refine below_set ?_ (IsS87.ge HI0.out)) | exact HB.out), by repeat (first | (with_reducible first | exact HK.out | apply KeepBut.set_ | apply keep_drewN | apply keep_drew | apply keep_alloc) | exact HK.out)⟩
                        · rw [if_neg c40] at H
                          exact absurd H (by simp)
                      · rw [if_neg c39] at H
                        exact absurd H (by simp)
                    · rw [if_neg c38] at H
                      exact absurd H (by simp)
                  · rw [if_neg c37] at H
                    exact absurd H (by simp)
                · rw [if_neg c36] at H
                  exact absurd H (by simp)
              · rw [if_neg c35] at H
                exact absurd H (by simp)
            · rw [if_neg c34] at H
              have c34b0 : ((t173.length : Int) == 6) = false := beq_eq_false_iff_ne.mpr c34
              have c34b1 : ((t173.length : Int) != 6) = true := bne_iff_ne.mpr c34
              by_cases c43 : (t173.length : Int) = 5
              · rw [if_pos c43] at H
                have c43b0 : ((t173.length : Int) == 5) = true := beq_iff_eq.mpr c43
                have c43b1 : ((t173.length : Int) != 5) = false := bne_eq_false_iff_eq.mpr c43
                clear c43
                by_cases c44 : 4 < (t173.length : Int)
                · rw [if_pos c44] at H
                  have c44b0 : decide (4 < (t173.length : Int)) = true := decide_eq_true c44
                  have c44b1 : decide (4 < t173.length) = true := decide_eq_true (by omega)
                  clear c44
                  by_cases c45 : 3 < (t173.length : Int)
                  · rw [if_pos c45] at H
                    have c45b0 : decide (3 < (t173.length : Int)) = true := decide_eq_true c45
                    have c45b1 : decide (3 < t173.length) = true := decide_eq_true (by omega)
                    clear c45
                    by_cases c46 : 2 < (t173.length : Int)
                    · rw [if_pos c46] at H
                      have c46b0 : decide (2 < (t173.length : Int)) = true := decide_eq_true c46
                      have c46b1 : decide (2 < t173.length) = true := decide_eq_true (by omega)
                      clear c46
                      by_cases c47 : 1 < (t173.length : Int)
                      · rw [if_pos c47] at H
                        have c47b0 : decide (1 < (t173.length : Int)) = true := decide_eq_true c47
                        have c47b1 : decide (1 < t173.length) = true := decide_eq_true (by omega)
                        clear c47
                        by_cases c48 : 0 < (t173.length : Int)
                        · rw [if_pos c48] at H
                          have c48b0 : decide (0 < (t173.length : Int)) = true := decide_eq_true c48
                          have c48b1 : decide (0 < t173.length) = true := decide_eq_true (by omega)
                          clear c48
                          simp only [Option.some.injEq, Prod.mk.injEq] at H
                          obtain ⟨rfl, rfl, rfl, rfl⟩ := H
                          go_wp2_with (first | ((with_reducible refine gate_callee (f := 41) rfl ?_); refine goesL_ (some 19) rfl rfl Tryd.func41 (by kernel_rfl) rfl #[.pointer (some ⟨g, 0, none⟩), .int .i64 a1] rfl (by (try simp only [List.map_toArray, List.map_cons, List.map_nil]); first | done | rfl | (simp only [List.length_drop, List.length_take]; rfl)) ?_; (with_reducible refine (num_Reader_Take.calls g s0_0 s0_1 s0_2 s0_3 a1 t173 t176 t177 t178 w0 _ ?side1 ?side2 A12.out).mono ?_); (case side1 => repeat (first | (with_reducible first | exact HI0.out | apply IsS87.alloc | apply IsS87.drewN | apply IsS87.drew | apply IsS87.set_1 | apply IsS87.set_2 | apply IsS87.set_3) | exact HI0.out)); (case side2 => repeat (first | (with_reducible first | exact HB.out | apply below_alloc | apply pw_below_drewN | apply below_drew1 | refine below_set ?_ (IsS87.ge HI0.out)) | exact HB.out)); rintro e w49 ⟨v174, rfl, ho0, hi, hb, hk⟩; refine ⟨_, rfl, ?_⟩; have n0_ := Aside0.mk (Kd.R_lower ho0 (keep_size (w := w) (g := g) (row := none) (by repeat (first | (with_reducible first | exact HK.out | apply KeepBut.set_ | apply keep_drewN | apply keep_drew | apply keep_alloc) | exact HK.out)))); have n1_ := Aside0.mk (KeepBut.trans (by repeat (first | (with_reducible first | exact HK.out | apply KeepBut.set_ | apply keep_drewN | apply keep_drew | apply keep_alloc) | exact HK.out)) hk (.inl rfl)); have n2_ := Aside0.mk (hb); have n3_ := Aside0.mk (hi); clear HK; clear HB; clear HI0; have HO175 := n0_; have HK := n1_; have HB := n2_; have HI0 := n3_; clear n0_ n1_ n2_ n3_; (try clear hb); (try clear hb2); (try clear hk); (try clear hi); (try clear ho0); obtain ⟨Ao50, co50, eo50⟩ := Kd.R_slice HO175.out; subst eo50; have p200 : 0 ≤ (4 : Int) := (by omega); have q200 : 4 < (t173.length : Int) := of_decide_eq_true (by first | (with_reducible assumption) | assumption); obtain ⟨ad200, e200, hx200_0⟩ := Kd.at_int (Kd.R_reads' HO175.out).2.2 4 p200 q200; cases e200; (try simp only [show (4 : Int).toNat = 4 from rfl, Nat.reduceMul, Nat.reduceEqDiff, Go.Addr.add, ↓reduceIte] at hx200_0); have qi200 : (4 < t173.length) = True := eq_true (by omega); (try rw [show ((4 : Int)).toNat = 4 from rfl] at hx200_0); replace p200 := eq_true p200; replace q200 := eq_true q200; have p201 : 0 ≤ (3 : Int) := (by omega); have q201 : 3 < (t173.length : Int) := of_decide_eq_true (by first | (with_reducible assumption) | assumption); obtain ⟨ad201, e201, hx201_0⟩ := Kd.at_int (Kd.R_reads' HO175.out).2.2 3 p201 q201; obtain rfl : ad200 = ad201 := (by injection e201); (try simp only [show (3 : Int).toNat = 3 from rfl, Nat.reduceMul, Nat.reduceEqDiff, Go.Addr.add, ↓reduceIte] at hx201_0); have qi201 : (3 < t173.length) = True := eq_true (by omega); (try rw [show ((3 : Int)).toNat = 3 from rfl] at hx201_0); replace p201 := eq_true p201; replace q201 := eq_true q201; have p202 : 0 ≤ (2 : Int) := (by omega); have q202 : 2 < (t173.length : Int) := of_decide_eq_true (by first | (with_reducible assumption) | assumption); obtain ⟨ad202, e202, hx202_0⟩ := Kd.at_int (Kd.R_reads' HO175.out).2.2 2 p202 q202; obtain rfl : ad200 = ad202 := (by injection e202); (try simp only [show (2 : Int).toNat = 2 from rfl, Nat.reduceMul, Nat.reduceEqDiff, Go.Addr.add, ↓reduceIte] at hx202_0); have qi202 : (2 < t173.length) = True := eq_true (by omega); (try rw [show ((2 : Int)).toNat = 2 from rfl] at hx202_0); replace p202 := eq_true p202; replace q202 := eq_true q202; have p203 : 0 ≤ (1 : Int) := (by omega); have q203 : 1 < (t173.length : Int) := of_decide_eq_true (by first | (with_reducible assumption) | assumption); obtain ⟨ad203, e203, hx203_0⟩ := Kd.at_int (Kd.R_reads' HO175.out).2.2 1 p203 q203; obtain rfl : ad200 = ad203 := (by injection e203); (try simp only [show (1 : Int).toNat = 1 from rfl, Nat.reduceMul, Nat.reduceEqDiff, Go.Addr.add, ↓reduceIte] at hx203_0); have qi203 : (1 < t173.length) = True := eq_true (by omega); (try rw [show ((1 : Int)).toNat = 1 from rfl] at hx203_0); replace p203 := eq_true p203; replace q203 := eq_true q203; have p204 : 0 ≤ (0 : Int) := (by omega); have q204 : 0 < (t173.length : Int) := of_decide_eq_true (by first | (with_reducible assumption) | assumption); obtain ⟨ad204, e204, hx204_0⟩ := Kd.at_int (Kd.R_reads' HO175.out).2.2 0 p204 q204; obtain rfl : ad200 = ad204 := (by injection e204); have qi204 : (0 < t173.length) = True := eq_true (by omega); (try rw [show ((0 : Int)).toNat = 0 from rfl] at hx204_0); (try rw [Addr.add_zero'] at hx204_0); replace p204 := eq_true p204; replace q204 := eq_true q204))
                          go_ret
                          exact ⟨by first | rfl | (simp [errW_none, errW_some] <;> rfl) | (simp [*, errW_none, errW_some] <;> rfl), by repeat (first | (with_reducible first | exact HI0.out | apply IsS87.alloc | apply IsS87.drewN | apply IsS87.drew | apply IsS87.set_1 | apply IsS87.set_2 | apply IsS87.set_3) | exact HI0.out), by repeat (first | (with_reducible first | exact HB.out | apply below_alloc | apply pw_below_drewN | apply below_drew1 | refine below_set ?_ (IsS87.ge HI0.out)) | exact HB.out), by repeat (first | (with_reducible first | exact HK.out | apply KeepBut.set_ | apply keep_drewN | apply keep_drew | apply keep_alloc) | exact HK.out)⟩
                        · rw [if_neg c48] at H
                          exact absurd H (by simp)
                      · rw [if_neg c47] at H
                        exact absurd H (by simp)
                    · rw [if_neg c46] at H
                      exact absurd H (by simp)
                  · rw [if_neg c45] at H
                    exact absurd H (by simp)
                · rw [if_neg c44] at H
                  exact absurd H (by simp)
              · rw [if_neg c43] at H
                have c43b0 : ((t173.length : Int) == 5) = false := beq_eq_false_iff_ne.mpr c43
                have c43b1 : ((t173.length : Int) != 5) = true := bne_iff_ne.mpr c43
                by_cases c51 : (t173.length : Int) = 4
                · rw [if_pos c51] at H
                  have c51b0 : ((t173.length : Int) == 4) = true := beq_iff_eq.mpr c51
                  have c51b1 : ((t173.length : Int) != 4) = false := bne_eq_false_iff_eq.mpr c51
                  clear c51
                  by_cases c52 : 3 < (t173.length : Int)
                  · rw [if_pos c52] at H
                    have c52b0 : decide (3 < (t173.length : Int)) = true := decide_eq_true c52
                    have c52b1 : decide (3 < t173.length) = true := decide_eq_true (by omega)
                    clear c52
                    by_cases c53 : 2 < (t173.length : Int)
                    · rw [if_pos c53] at H
                      have c53b0 : decide (2 < (t173.length : Int)) = true := decide_eq_true c53
                      have c53b1 : decide (2 < t173.length) = true := decide_eq_true (by omega)
                      clear c53
                      by_cases c54 : 1 < (t173.length : Int)
                      · rw [if_pos c54] at H
                        have c54b0 : decide (1 < (t173.length : Int)) = true := decide_eq_true c54
                        have c54b1 : decide (1 < t173.length) = true := decide_eq_true (by omega)
                        clear c54
                        by_cases c55 : 0 < (t173.length : Int)
                        · rw [if_pos c55] at H
                          have c55b0 : decide (0 < (t173.length : Int)) = true := decide_eq_true c55
                          have c55b1 : decide (0 < t173.length) = true := decide_eq_true (by omega)
                          clear c55
                          simp only [Option.some.injEq, Prod.mk.injEq] at H
                          obtain ⟨rfl, rfl, rfl, rfl⟩ := H
                          go_wp2_with (first | ((with_reducible refine gate_callee (f := 41) rfl ?_); refine goesL_ (some 19) rfl rfl Tryd.func41 (by kernel_rfl) rfl #[.pointer (some ⟨g, 0, none⟩), .int .i64 a1] rfl (by (try simp only [List.map_toArray, List.map_cons, List.map_nil]); first | done | rfl | (simp only [List.length_drop, List.length_take]; rfl)) ?_; (with_reducible refine (num_Reader_Take.calls g s0_0 s0_1 s0_2 s0_3 a1 t173 t176 t177 t178 w0 _ ?side1 ?side2 A12.out).mono ?_); (case side1 => repeat (first | (with_reducible first | exact HI0.out | apply IsS87.alloc | apply IsS87.drewN | apply IsS87.drew | apply IsS87.set_1 | apply IsS87.set_2 | apply IsS87.set_3) | exact HI0.out)); (case side2 => repeat (first | (with_reducible first | exact HB.out | apply below_alloc | apply pw_below_drewN | apply below_drew1 | refine below_set ?_ (IsS87.ge HI0.out)) | exact HB.out)); rintro e w56 ⟨v174, rfl, ho0, hi, hb, hk⟩; refine ⟨_, rfl, ?_⟩; have n0_ := Aside0.mk (Kd.R_lower ho0 (keep_size (w := w) (g := g) (row := none) (by repeat (first | (with_reducible first | exact HK.out | apply KeepBut.set_ | apply keep_drewN | apply keep_drew | apply keep_alloc) | exact HK.out)))); have n1_ := Aside0.mk (KeepBut.trans (by repeat (first | (with_reducible first | exact HK.out | apply KeepBut.set_ | apply keep_drewN | apply keep_drew | apply keep_alloc) | exact HK.out)) hk (.inl rfl)); have n2_ := Aside0.mk (hb); have n3_ := Aside0.mk (hi); clear HK; clear HB; clear HI0; have HO175 := n0_; have HK := n1_; have HB := n2_; have HI0 := n3_; clear n0_ n1_ n2_ n3_; (try clear hb); (try clear hb2); (try clear hk); (try clear hi); (try clear ho0); obtain ⟨Ao57, co57, eo57⟩ := Kd.R_slice HO175.out; subst eo57; have p205 : 0 ≤ (3 : Int) := (by omega); have q205 : 3 < (t173.length : Int) := of_decide_eq_true (by first | (with_reducible assumption) | assumption); obtain ⟨ad205, e205, hx205_0⟩ := Kd.at_int (Kd.R_reads' HO175.out).2.2 3 p205 q205; cases e205; (try simp only [show (3 : Int).toNat = 3 from rfl, Nat.reduceMul, Nat.reduceEqDiff, Go.Addr.add, ↓reduceIte] at hx205_0); have qi205 : (3 < t173.length) = True := eq_true (by omega); (try rw [show ((3 : Int)).toNat = 3 from rfl] at hx205_0); replace p205 := eq_true p205; replace q205 := eq_true q205; have p206 : 0 ≤ (2 : Int) := (by omega); have q206 : 2 < (t173.length : Int) := of_decide_eq_true (by first | (with_reducible assumption) | assumption); obtain ⟨ad206, e206, hx206_0⟩ := Kd.at_int (Kd.R_reads' HO175.out).2.2 2 p206 q206; obtain rfl : ad205 = ad206 := (by injection e206); (try simp only [show (2 : Int).toNat = 2 from rfl, Nat.reduceMul, Nat.reduceEqDiff, Go.Addr.add, ↓reduceIte] at hx206_0); have qi206 : (2 < t173.length) = True := eq_true (by omega); (try rw [show ((2 : Int)).toNat = 2 from rfl] at hx206_0); replace p206 := eq_true p206; replace q206 := eq_true q206; have p207 : 0 ≤ (1 : Int) := (by omega); have q207 : 1 < (t173.length : Int) := of_decide_eq_true (by first | (with_reducible assumption) | assumption); obtain ⟨ad207, e207, hx207_0⟩ := Kd.at_int (Kd.R_reads' HO175.out).2.2 1 p207 q207; obtain rfl : ad205 = ad207 := (by injection e207); (try simp only [show (1 : Int).toNat = 1 from rfl, Nat.reduceMul, Nat.reduceEqDiff, Go.Addr.add, ↓reduceIte] at hx207_0); have qi207 : (1 < t173.length) = True := eq_true (by omega); (try rw [show ((1 : Int)).toNat = 1 from rfl] at hx207_0); replace p207 := eq_true p207; replace q207 := eq_true q207; have p208 : 0 ≤ (0 : Int) := (by omega); have q208 : 0 < (t173.length : Int) := of_decide_eq_true (by first | (with_reducible assumption) | assumption); obtain ⟨ad208, e208, hx208_0⟩ := Kd.at_int (Kd.R_reads' HO175.out).2.2 0 p208 q208; obtain rfl : ad205 = ad208 := (by injection e208); have qi208 : (0 < t173.length) = True := eq_true (by omega); (try rw [show ((0 : Int)).toNat = 0 from rfl] at hx208_0); (try rw [Addr.add_zero'] at hx208_0); replace p208 := eq_true p208; replace q208 := eq_true q208))
                          go_ret
                          exact ⟨by first | rfl | (simp [errW_none, errW_some] <;> rfl) | (simp [*, errW_none, errW_some] <;> rfl), by repeat (first | (with_reducible first | exact HI0.out | apply IsS87.alloc | apply IsS87.drewN | apply IsS87.drew | apply IsS87.set_1 | apply IsS87.set_2 | apply IsS87.set_3) | exact HI0.out), by repeat (first | (with_reducible first | exact HB.out | apply below_alloc | apply pw_below_drewN | apply below_drew1 | refine below_set ?_ (IsS87.ge HI0.out)) | exact HB.out), by repeat (first | (with_reducible first | exact HK.out | apply KeepBut.set_ | apply keep_drewN | apply keep_drew | apply keep_alloc) | exact HK.out)⟩
                        · rw [if_neg c55] at H
                          exact absurd H (by simp)
                      · rw [if_neg c54] at H
                        exact absurd H (by simp)
                    · rw [if_neg c53] at H
                      exact absurd H (by simp)
                  · rw [if_neg c52] at H
                    exact absurd H (by simp)
                · rw [if_neg c51] at H
                  have c51b0 : ((t173.length : Int) == 4) = false := beq_eq_false_iff_ne.mpr c51
                  have c51b1 : ((t173.length : Int) != 4) = true := bne_iff_ne.mpr c51
                  by_cases c58 : (t173.length : Int) = 3
                  · rw [if_pos c58] at H
                    have c58b0 : ((t173.length : Int) == 3) = true := beq_iff_eq.mpr c58
                    have c58b1 : ((t173.length : Int) != 3) = false := bne_eq_false_iff_eq.mpr c58
                    clear c58
                    by_cases c59 : 2 < (t173.length : Int)
                    · rw [if_pos c59] at H
                      have c59b0 : decide (2 < (t173.length : Int)) = true := decide_eq_true c59
                      have c59b1 : decide (2 < t173.length) = true := decide_eq_true (by omega)
                      clear c59
                      by_cases c60 : 1 < (t173.length : Int)
                      · rw [if_pos c60] at H
                        have c60b0 : decide (1 < (t173.length : Int)) = true := decide_eq_true c60
                        have c60b1 : decide (1 < t173.length) = true := decide_eq_true (by omega)
                        clear c60
                        by_cases c61 : 0 < (t173.length : Int)
                        · rw [if_pos c61] at H
                          have c61b0 : decide (0 < (t173.length : Int)) = true := decide_eq_true c61
                          have c61b1 : decide (0 < t173.length) = true := decide_eq_true (by omega)
                          clear c61
                          simp only [Option.some.injEq, Prod.mk.injEq] at H
                          obtain ⟨rfl, rfl, rfl, rfl⟩ := H
                          go_wp2_with (first | ((with_reducible refine gate_callee (f := 41) rfl ?_); refine goesL_ (some 19) rfl rfl Tryd.func41 (by kernel_rfl) rfl #[.pointer (some ⟨g, 0, none⟩), .int .i64 a1] rfl (by (try simp only [List.map_toArray, List.map_cons, List.map_nil]); first | done | rfl | (simp only [List.length_drop, List.length_take]; rfl)) ?_; (with_reducible refine (num_Reader_Take.calls g s0_0 s0_1 s0_2 s0_3 a1 t173 t176 t177 t178 w0 _ ?side1 ?side2 A12.out).mono ?_); (case side1 => repeat (first | (with_reducible first | exact HI0.out | apply IsS87.alloc | apply IsS87.drewN | apply IsS87.drew | apply IsS87.set_1 | apply IsS87.set_2 | apply IsS87.set_3) | exact HI0.out)); (case side2 => repeat (first | (with_reducible first | exact HB.out | apply below_alloc | apply pw_below_drewN | apply below_drew1 | refine below_set ?_ (IsS87.ge HI0.out)) | exact HB.out)); rintro e w62 ⟨v174, rfl, ho0, hi, hb, hk⟩; refine ⟨_, rfl, ?_⟩; have n0_ := Aside0.mk (Kd.R_lower ho0 (keep_size (w := w) (g := g) (row := none) (by repeat (first | (with_reducible first | exact HK.out | apply KeepBut.set_ | apply keep_drewN | apply keep_drew | apply keep_alloc) | exact HK.out)))); have n1_ := Aside0.mk (KeepBut.trans (by repeat (first | (with_reducible first | exact HK.out | apply KeepBut.set_ | apply keep_drewN | apply keep_drew | apply keep_alloc) | exact HK.out)) hk (.inl rfl)); have n2_ := Aside0.mk (hb); have n3_ := Aside0.mk (hi); clear HK; clear HB; clear HI0; have HO175 := n0_; have HK := n1_; have HB := n2_; have HI0 := n3_; clear n0_ n1_ n2_ n3_; (try clear hb); (try clear hb2); (try clear hk); (try clear hi); (try clear ho0); obtain ⟨Ao63, co63, eo63⟩ := Kd.R_slice HO175.out; subst eo63; have p209 : 0 ≤ (2 : Int) := (by omega); have q209 : 2 < (t173.length : Int) := of_decide_eq_true (by first | (with_reducible assumption) | assumption); obtain ⟨ad209, e209, hx209_0⟩ := Kd.at_int (Kd.R_reads' HO175.out).2.2 2 p209 q209; cases e209; (try simp only [show (2 : Int).toNat = 2 from rfl, Nat.reduceMul, Nat.reduceEqDiff, Go.Addr.add, ↓reduceIte] at hx209_0); have qi209 : (2 < t173.length) = True := eq_true (by omega); (try rw [show ((2 : Int)).toNat = 2 from rfl] at hx209_0); replace p209 := eq_true p209; replace q209 := eq_true q209; have p210 : 0 ≤ (1 : Int) := (by omega); have q210 : 1 < (t173.length : Int) := of_decide_eq_true (by first | (with_reducible assumption) | assumption); obtain ⟨ad210, e210, hx210_0⟩ := Kd.at_int (Kd.R_reads' HO175.out).2.2 1 p210 q210; obtain rfl : ad209 = ad210 := (by injection e210); (try simp only [show (1 : Int).toNat = 1 from rfl, Nat.reduceMul, Nat.reduceEqDiff, Go.Addr.add, ↓reduceIte] at hx210_0); have qi210 : (1 < t173.length) = True := eq_true (by omega); (try rw [show ((1 : Int)).toNat = 1 from rfl] at hx210_0); replace p210 := eq_true p210; replace q210 := eq_true q210; have p211 : 0 ≤ (0 : Int) := (by omega); have q211 : 0 < (t173.length : Int) := of_decide_eq_true (by first | (with_reducible assumption) | assumption); obtain ⟨ad211, e211, hx211_0⟩ := Kd.at_int (Kd.R_reads' HO175.out).2.2 0 p211 q211; obtain rfl : ad209 = ad211 := (by injection e211); have qi211 : (0 < t173.length) = True := eq_true (by omega); (try rw [show ((0 : Int)).toNat = 0 from rfl] at hx211_0); (try rw [Addr.add_zero'] at hx211_0); replace p211 := eq_true p211; replace q211 := eq_true q211))
                          go_ret
                          exact ⟨by first | rfl | (simp [errW_none, errW_some] <;> rfl) | (simp [*, errW_none, errW_some] <;> rfl), by repeat (first | (with_reducible first | exact HI0.out | apply IsS87.alloc | apply IsS87.drewN | apply IsS87.drew | apply IsS87.set_1 | apply IsS87.set_2 | apply IsS87.set_3) | exact HI0.out), by repeat (first | (with_reducible first | exact HB.out | apply below_alloc | apply pw_below_drewN | apply below_drew1 | refine below_set ?_ (IsS87.ge HI0.out)) | exact HB.out), by repeat (first | (with_reducible first | exact HK.out | apply KeepBut.set_ | apply keep_drewN | apply keep_drew | apply keep_alloc) | exact HK.out)⟩
                        · rw [if_neg c61] at H
                          exact absurd H (by simp)
                      · rw [if_neg c60] at H
                        exact absurd H (by simp)
                    · rw [if_neg c59] at H
                      exact absurd H (by simp)
                  · rw [if_neg c58] at H
                    have c58b0 : ((t173.length : Int) == 3) = false := beq_eq_false_iff_ne.mpr c58
                    have c58b1 : ((t173.length : Int) != 3) = true := bne_iff_ne.mpr c58
                    by_cases c64 : (t173.length : Int) = 2
                    · rw [if_pos c64] at H
                      have c64b0 : ((t173.length : Int) == 2) = true := beq_iff_eq.mpr c64
                      have c64b1 : ((t173.length : Int) != 2) = false := bne_eq_false_iff_eq.mpr c64
                      clear c64
                      by_cases c65 : 1 < (t173.length : Int)
                      · rw [if_pos c65] at H
                        have c65b0 : decide (1 < (t173.length : Int)) = true := decide_eq_true c65
                        have c65b1 : decide (1 < t173.length) = true := decide_eq_true (by omega)
                        clear c65
                        by_cases c66 : 0 < (t173.length : Int)
                        · rw [if_pos c66] at H
                          have c66b0 : decide (0 < (t173.length : Int)) = true := decide_eq_true c66
                          have c66b1 : decide (0 < t173.length) = true := decide_eq_true (by omega)
                          clear c66
                          simp only [Option.some.injEq, Prod.mk.injEq] at H
                          obtain ⟨rfl, rfl, rfl, rfl⟩ := H
                          go_wp2_with (first | ((with_reducible refine gate_callee (f := 41) rfl ?_); refine goesL_ (some 19) rfl rfl Tryd.func41 (by kernel_rfl) rfl #[.pointer (some ⟨g, 0, none⟩), .int .i64 a1] rfl (by (try simp only [List.map_toArray, List.map_cons, List.map_nil]); first | done | rfl | (simp only [List.length_drop, List.length_take]; rfl)) ?_; (with_reducible refine (num_Reader_Take.calls g s0_0 s0_1 s0_2 s0_3 a1 t173 t176 t177 t178 w0 _ ?side1 ?side2 A12.out).mono ?_); (case side1 => repeat (first | (with_reducible first | exact HI0.out | apply IsS87.alloc | apply IsS87.drewN | apply IsS87.drew | apply IsS87.set_1 | apply IsS87.set_2 | apply IsS87.set_3) | exact HI0.out)); (case side2 => repeat (first | (with_reducible first | exact HB.out | apply below_alloc | apply pw_below_drewN | apply below_drew1 | refine below_set ?_ (IsS87.ge HI0.out)) | exact HB.out)); rintro e w67 ⟨v174, rfl, ho0, hi, hb, hk⟩; refine ⟨_, rfl, ?_⟩; have n0_ := Aside0.mk (Kd.R_lower ho0 (keep_size (w := w) (g := g) (row := none) (by repeat (first | (with_reducible first | exact HK.out | apply KeepBut.set_ | apply keep_drewN | apply keep_drew | apply keep_alloc) | exact HK.out)))); have n1_ := Aside0.mk (KeepBut.trans (by repeat (first | (with_reducible first | exact HK.out | apply KeepBut.set_ | apply keep_drewN | apply keep_drew | apply keep_alloc) | exact HK.out)) hk (.inl rfl)); have n2_ := Aside0.mk (hb); have n3_ := Aside0.mk (hi); clear HK; clear HB; clear HI0; have HO175 := n0_; have HK := n1_; have HB := n2_; have HI0 := n3_; clear n0_ n1_ n2_ n3_; (try clear hb); (try clear hb2); (try clear hk); (try clear hi); (try clear ho0); obtain ⟨Ao68, co68, eo68⟩ := Kd.R_slice HO175.out; subst eo68; have p212 : 0 ≤ (1 : Int) := (by omega); have q212 : 1 < (t173.length : Int) := of_decide_eq_true (by first | (with_reducible assumption) | assumption); obtain ⟨ad212, e212, hx212_0⟩ := Kd.at_int (Kd.R_reads' HO175.out).2.2 1 p212 q212; cases e212; (try simp only [show (1 : Int).toNat = 1 from rfl, Nat.reduceMul, Nat.reduceEqDiff, Go.Addr.add, ↓reduceIte] at hx212_0); have qi212 : (1 < t173.length) = True := eq_true (by omega); (try rw [show ((1 : Int)).toNat = 1 from rfl] at hx212_0); replace p212 := eq_true p212; replace q212 := eq_true q212; have p213 : 0 ≤ (0 : Int) := (by omega); have q213 : 0 < (t173.length : Int) := of_decide_eq_true (by first | (with_reducible assumption) | assumption); obtain ⟨ad213, e213, hx213_0⟩ := Kd.at_int (Kd.R_reads' HO175.out).2.2 0 p213 q213; obtain rfl : ad212 = ad213 := (by injection e213); have qi213 : (0 < t173.length) = True := eq_true (by omega); (try rw [show ((0 : Int)).toNat = 0 from rfl] at hx213_0); (try rw [Addr.add_zero'] at hx213_0); replace p213 := eq_true p213; replace q213 := eq_true q213))
                          go_ret
                          exact ⟨by first | rfl | (simp [errW_none, errW_some] <;> rfl) | (simp [*, errW_none, errW_some] <;> rfl), by repeat (first | (with_reducible first | exact HI0.out | apply IsS87.alloc | apply IsS87.drewN | apply IsS87.drew | apply IsS87.set_1 | apply IsS87.set_2 | apply IsS87.set_3) | exact HI0.out), by repeat (first | (with_reducible first | exact HB.out | apply below_alloc | apply pw_below_drewN | apply below_drew1 | refine below_set ?_ (IsS87.ge HI0.out)) | exact HB.out), by repeat (first | (with_reducible first | exact HK.out | apply KeepBut.set_ | apply keep_drewN | apply keep_drew | apply keep_alloc) | exact HK.out)⟩
                        · rw [if_neg c66] at H
                          exact absurd H (by simp)
                      · rw [if_neg c65] at H
                        exact absurd H (by simp)
                    · rw [if_neg c64] at H
                      have c64b0 : ((t173.length : Int) == 2) = false := beq_eq_false_iff_ne.mpr c64
                      have c64b1 : ((t173.length : Int) != 2) = true := bne_iff_ne.mpr c64
                      by_cases c69 : (t173.length : Int) = 1
                      · rw [if_pos c69] at H
                        have c69b0 : ((t173.length : Int) == 1) = true := beq_iff_eq.mpr c69
                        have c69b1 : ((t173.length : Int) != 1) = false := bne_eq_false_iff_eq.mpr c69
                        clear c69
                        by_cases c70 : 0 < (t173.length : Int)
                        · rw [if_pos c70] at H
                          have c70b0 : decide (0 < (t173.length : Int)) = true := decide_eq_true c70
                          have c70b1 : decide (0 < t173.length) = true := decide_eq_true (by omega)
                          clear c70
                          simp only [Option.some.injEq, Prod.mk.injEq] at H
                          obtain ⟨rfl, rfl, rfl, rfl⟩ := H
                          go_wp2_with (first | ((with_reducible refine gate_callee (f := 41) rfl ?_); refine goesL_ (some 19) rfl rfl Tryd.func41 (by kernel_rfl) rfl #[.pointer (some ⟨g, 0, none⟩), .int .i64 a1] rfl (by (try simp only [List.map_toArray, List.map_cons, List.map_nil]); first | done | rfl | (simp only [List.length_drop, List.length_take]; rfl)) ?_; (with_reducible refine (num_Reader_Take.calls g s0_0 s0_1 s0_2 s0_3 a1 t173 t176 t177 t178 w0 _ ?side1 ?side2 A12.out).mono ?_); (case side1 => repeat (first | (with_reducible first | exact HI0.out | apply IsS87.alloc | apply IsS87.drewN | apply IsS87.drew | apply IsS87.set_1 | apply IsS87.set_2 | apply IsS87.set_3) | exact HI0.out)); (case side2 => repeat (first | (with_reducible first | exact HB.out | apply below_alloc | apply pw_below_drewN | apply below_drew1 | refine below_set ?_ (IsS87.ge HI0.out)) | exact HB.out)); rintro e w71 ⟨v174, rfl, ho0, hi, hb, hk⟩; refine ⟨_, rfl, ?_⟩; have n0_ := Aside0.mk (Kd.R_lower ho0 (keep_size (w := w) (g := g) (row := none) (by repeat (first | (with_reducible first | exact HK.out | apply KeepBut.set_ | apply keep_drewN | apply keep_drew | apply keep_alloc) | exact HK.out)))); have n1_ := Aside0.mk (KeepBut.trans (by repeat (first | (with_reducible first | exact HK.out | apply KeepBut.set_ | apply keep_drewN | apply keep_drew | apply keep_alloc) | exact HK.out)) hk (.inl rfl)); have n2_ := Aside0.mk (hb); have n3_ := Aside0.mk (hi); clear HK; clear HB; clear HI0; have HO175 := n0_; have HK := n1_; have HB := n2_; have HI0 := n3_; clear n0_ n1_ n2_ n3_; (try clear hb); (try clear hb2); (try clear hk); (try clear hi); (try clear ho0); obtain ⟨Ao72, co72, eo72⟩ := Kd.R_slice HO175.out; subst eo72; have p214 : 0 ≤ (0 : Int) := (by omega); have q214 : 0 < (t173.length : Int) := of_decide_eq_true (by first | (with_reducible assumption) | assumption); obtain ⟨ad214, e214, hx214_0⟩ := Kd.at_int (Kd.R_reads' HO175.out).2.2 0 p214 q214; cases e214; have qi214 : (0 < t173.length) = True := eq_true (by omega); (try rw [show ((0 : Int)).toNat = 0 from rfl] at hx214_0); (try rw [Addr.add_zero'] at hx214_0); replace p214 := eq_true p214; replace q214 := eq_true q214))
                          go_ret
                          exact ⟨by first | rfl | (simp [errW_none, errW_some] <;> rfl) | (simp [*, errW_none, errW_some] <;> rfl), by repeat (first | (with_reducible first | exact HI0.out | apply IsS87.alloc | apply IsS87.drewN | apply IsS87.drew | apply IsS87.set_1 | apply IsS87.set_2 | apply IsS87.set_3) | exact HI0.out), by repeat (first | (with_reducible first | exact HB.out | apply below_alloc | apply pw_below_drewN | apply below_drew1 | refine below_set ?_ (IsS87.ge HI0.out)) | exact HB.out), by repeat (first | (with_reducible first | exact HK.out | apply KeepBut.set_ | apply keep_drewN | apply keep_drew | apply keep_alloc) | exact HK.out)⟩
                        · rw [if_neg c70] at H
                          exact absurd H (by simp)
                      · rw [if_neg c69] at H
                        have c69b0 : ((t173.length : Int) == 1) = false := beq_eq_false_iff_ne.mpr c69
                        have c69b1 : ((t173.length : Int) != 1) = true := bne_iff_ne.mpr c69
                        simp only [Option.some.injEq, Prod.mk.injEq] at H
                        obtain ⟨rfl, rfl, rfl, rfl⟩ := H
                        go_wp2_with (first | ((with_reducible refine gate_callee (f := 41) rfl ?_); refine goesL_ (some 19) rfl rfl Tryd.func41 (by kernel_rfl) rfl #[.pointer (some ⟨g, 0, none⟩), .int .i64 a1] rfl (by (try simp only [List.map_toArray, List.map_cons, List.map_nil]); first | done | rfl | (simp only [List.length_drop, List.length_take]; rfl)) ?_; (with_reducible refine (num_Reader_Take.calls g s0_0 s0_1 s0_2 s0_3 a1 t173 t176 t177 t178 w0 _ ?side1 ?side2 A12.out).mono ?_); (case side1 => repeat (first | (with_reducible first | exact HI0.out | apply IsS87.alloc | apply IsS87.drewN | apply IsS87.drew | apply IsS87.set_1 | apply IsS87.set_2 | apply IsS87.set_3) | exact HI0.out)); (case side2 => repeat (first | (with_reducible first | exact HB.out | apply below_alloc | apply pw_below_drewN | apply below_drew1 | refine below_set ?_ (IsS87.ge HI0.out)) | exact HB.out)); rintro e w73 ⟨v174, rfl, ho0, hi, hb, hk⟩; refine ⟨_, rfl, ?_⟩; have n0_ := Aside0.mk (Kd.R_lower ho0 (keep_size (w := w) (g := g) (row := none) (by repeat (first | (with_reducible first | exact HK.out | apply KeepBut.set_ | apply keep_drewN | apply keep_drew | apply keep_alloc) | exact HK.out)))); have n1_ := Aside0.mk (KeepBut.trans (by repeat (first | (with_reducible first | exact HK.out | apply KeepBut.set_ | apply keep_drewN | apply keep_drew | apply keep_alloc) | exact HK.out)) hk (.inl rfl)); have n2_ := Aside0.mk (hb); have n3_ := Aside0.mk (hi); clear HK; clear HB; clear HI0; have HO175 := n0_; have HK := n1_; have HB := n2_; have HI0 := n3_; clear n0_ n1_ n2_ n3_; (try clear hb); (try clear hb2); (try clear hk); (try clear hi); (try clear ho0); obtain ⟨Ao74, co74, eo74⟩ := Kd.R_slice HO175.out; subst eo74))
                        go_ret
                        exact ⟨by first | rfl | (simp [errW_none, errW_some] <;> rfl) | (simp [*, errW_none, errW_some] <;> rfl), by repeat (first | (with_reducible first | exact HI0.out | apply IsS87.alloc | apply IsS87.drewN | apply IsS87.drew | apply IsS87.set_1 | apply IsS87.set_2 | apply IsS87.set_3) | exact HI0.out), by repeat (first | (with_reducible first | exact HB.out | apply below_alloc | apply pw_below_drewN | apply below_drew1 | refine below_set ?_ (IsS87.ge HI0.out)) | exact HB.out), by repeat (first | (with_reducible first | exact HK.out | apply KeepBut.set_ | apply keep_drewN | apply keep_drew | apply keep_alloc) | exact HK.out)⟩

-- NOT PRINTED: function 89 (reflectlite_ValueOf)

-- NOT PRINTED: function 90 (reflectlite_Value_Type)

-- NOT PRINTED: function 91 (reflectlite_Value_IsNil)

-- NOT PRINTED: function 109 (reflectlite_TypeOf)

-- NOT PRINTED: function 110 (reflectlite_Value_Elem)

-- NOT PRINTED: function 111 (reflectlite_Value_Set)

-- NOT PRINTED: function 92 (errors_as)

-- NOT PRINTED: function 73 (errors_As)

end Go.Proofs.YtieddojplhmhgaaDoor.PDictGets
