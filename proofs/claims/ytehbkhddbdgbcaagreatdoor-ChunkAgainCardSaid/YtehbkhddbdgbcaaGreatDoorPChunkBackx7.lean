/- WRITTEN BY A PROGRAM of this session (wip/tool: a turned copy of the printer), out of the translation: Lean functions with the answers of the Go functions, and the proofs that the Go code comes to them. -/
import Derived.Test.YtehbkhddbdgbcaaGreatDoorPChunkBackx1
import Derived.Test.YtehbkhddbdgbcaaGreatDoorPChunkBackx3
import Derived.Test.YtehbkhddbdgbcaaGreatDoorPChunkBackx4
import Derived.Test.YtehbkhddbdgbcaaGreatDoorPChunkBackx5
namespace Go.Proofs.YtehbkhddbdgbcaaGreatDoor.PChunkBack
open Go.RowKit Go.Proofs.YtehbkhddbdgbcaaGreatDoorW.PrintWords Go.Proofs.YtehbkhddbdgbcaaGreatDoorW.PrintLast Go.Proofs.YtehbkhddbdgbcaaGreatDoorW.PrintMore
attribute [local go_sem] max2_int min2_int max_two min_two max_three min_three max_four min_four   -- for this text's walks alone
set_option linter.unusedVariables false
set_option linter.unusedSimpArgs false

/-! ### num_Reader_Take: function 22 -/
def num_Reader_Take.f (s0_0 : List Int) (s0_1 : Int) (s0_2 : Int) (s0_3 : Int) (a1 : Int) : Option (List Int × Int × Int × Int) :=
 if 0 ≤ s0_1 ∧ s0_1 ≤ (s0_0.length : Int) ∧ (s0_0.length : Int) ≤ 140737488355328 then
  if s0_2 ≠ 0 then some ([], s0_1, s0_2, s0_3)
  else if a1 < 0 then some ([], s0_1, 1, s0_1)
  else if (s0_0.length : Int) - s0_1 < a1 then some ([], s0_1, 2, s0_1)
  else some ((s0_0.drop s0_1.toNat).take a1.toNat, s0_1 + a1, 0, s0_3)
 else none
set_option maxHeartbeats 4000000 in
theorem num_Reader_Take.calls (g : Nat) (s0_0 : List Int) (s0_1 : Int) (s0_2 : Int) (s0_3 : Int) (a1 : Int) (r1 : List Int) (r2 r3 r4 : Int) (w0 w : World) (hI : IsS73 w0 w g s0_0 s0_1 s0_2 s0_3) (hB : Below w0.heap.size w0 w) (h : num_Reader_Take.f s0_0 s0_1 s0_2 s0_3 a1 = some (r1, r2, r3, r4)) :
  Calls Tryz.prog 22 #[.pointer (some ⟨g, 0, none⟩), .int .i64 a1] w fun e w' => ∃ v0_ : Value, e = .returned v0_ ∧ (Kd.int .u8).R 5 w' w.heap.size (fun _ => True) v0_ r1 ∧ IsS73 w0 w' g s0_0 r2 r3 r4 ∧ Below w0.heap.size w0 w' ∧ KeepBut w w' g none := by
 unfold num_Reader_Take.f at h
 by_cases hb0 : 0 ≤ s0_1 ∧ s0_1 ≤ (s0_0.length : Int) ∧ (s0_0.length : Int) ≤ 140737488355328
 case neg => rw [if_neg hb0] at h; cases h
 rw [if_pos hb0] at h
 have hw : wrap64 ((s0_0.length : Int) - s0_1) = (s0_0.length : Int) - s0_1 := by unfold wrap64; omega
 have hI0 := hI; obtain ⟨A, c, ev, hb, hc0, hc1, hc2, hfz, hr, hf⟩ := hI.open; have hg := hI.ge; have hlt := hI.lt
 by_cases h0 : s0_2 = 0
 case neg =>
  rw [if_pos h0] at h; simp only [Option.some.injEq, Prod.mk.injEq] at h; obtain ⟨rfl, rfl, rfl, rfl⟩ := h; have d0 : decide (s0_2 = 0) = false := decide_eq_false h0; go_enter Tryz.func22, Tryz.ntmps22
  go_wp2_with (go_at_call 42; refine (num_Reader_ok.walk g _ _ _ _ w0 w hI0).mono ?_; rintro e w' ⟨he, rfl⟩; rw [d0] at he; subst he)
  go_ret
  exact ⟨_, rfl, Kd.R_nil _ _ _ _ _, hI0, hB, KeepBut.refl _ _ _⟩
 rw [if_neg (by simp [h0])] at h; have d0 : decide (s0_2 = 0) = true := decide_eq_true h0
 by_cases h1 : a1 < 0
 ·rw [if_pos h1] at h; simp only [Option.some.injEq, Prod.mk.injEq] at h; obtain ⟨rfl, rfl, rfl, rfl⟩ := h; have d1 : decide (a1 < 0) = true := decide_eq_true h1; have hn : num_Reader_Fail.next s0_2 s0_1 s0_3 1 = (1, s0_1) := if_pos ⟨h0, by decide⟩; have hF := num_Reader_Fail.walk g s0_0 s0_1 s0_2 s0_3 1 w0 w hI0 hB; rw [hn] at hF; go_enter Tryz.func22, Tryz.ntmps22
  go_wp2_with (first | (go_at_call 42; refine (num_Reader_ok.walk g _ _ _ _ w0 w hI0).mono ?_; rintro e w' ⟨he, rfl⟩; rw [d0] at he; subst he) | (go_at_call 39; refine hF.mono ?_; rintro e w1 ⟨rfl, hI1, hB1, hK1⟩))
  go_ret
  exact ⟨_, rfl, Kd.R_nil _ _ _ _ _, hI1, hB1, hK1⟩
 rw [if_neg h1] at h; have d1 : decide (a1 < 0) = false := decide_eq_false h1
 by_cases h2 : (s0_0.length : Int) - s0_1 < a1
 ·rw [if_pos h2] at h; simp only [Option.some.injEq, Prod.mk.injEq] at h; obtain ⟨rfl, rfl, rfl, rfl⟩ := h; have d2 : decide ((s0_0.length : Int) - s0_1 < a1) = true := decide_eq_true h2; have hn : num_Reader_Fail.next s0_2 s0_1 s0_3 2 = (2, s0_1) := if_pos ⟨h0, by decide⟩
  have hF := fun m => num_Reader_Fail.walk g s0_0 s0_1 s0_2 s0_3 2 w0 (w.drewN m) (hI0.drewN m) (pw_below_drewN hB m)
  rw [hn] at hF; go_enter Tryz.func22, Tryz.ntmps22
  go_wp2_with (first | (go_at_call 42; refine (num_Reader_ok.walk g _ _ _ _ w0 w hI0).mono ?_; rintro e w' ⟨he, rfl⟩; rw [d0] at he; subst he) | (go_at_call 23; refine (num_Reader_Left.walk g _ _ _ _ w0 _ hI0).mono ?_; rintro e w' ⟨rfl, ⟨m, rfl⟩⟩; rw [hw]) | (go_at_call 39; refine (hF _).mono ?_; rintro e w1 ⟨rfl, hI1, hB1, hK1⟩))
  go_ret
  exact ⟨_, rfl, Kd.R_nil _ _ _ _ _, hI1, hB1, hK1⟩
 rw [if_neg h2] at h; have d2 : decide ((s0_0.length : Int) - s0_1 < a1) = false := decide_eq_false h2; simp only [Option.some.injEq, Prod.mk.injEq] at h; obtain ⟨rfl, rfl, rfl, rfl⟩ := h
 have hw2 : wrap64 (s0_1 + a1) = s0_1 + a1 := by unfold wrap64; omega
 obtain ⟨hb1, hb2, hb3⟩ := hb0; go_enter Tryz.func22, Tryz.ntmps22
 go_wp2_with (first | (go_at_call 42; refine (num_Reader_ok.walk g _ _ _ _ w0 w hI0).mono ?_; rintro e w' ⟨he, rfl⟩; rw [d0] at he; subst he) | (go_at_call 23; refine (num_Reader_Left.walk g _ _ _ _ w0 _ hI0).mono ?_; rintro e w' ⟨rfl, ⟨m, rfl⟩⟩; rw [hw]))
 have hI1 := (hI0.drewN m).set_1 (s0_1 + a1); have hB1 := (pw_below_drewN hB m).setCell (p := ⟨g, 1, none⟩) hg (.int .i64 (s0_1 + a1)); have hK1 := KeepBut.set_ (keep_drewN (KeepBut.refl w' g none) m) 1 (.int .i64 (s0_1 + a1)); generalize (w'.drewN m).setCell ⟨g, 1, none⟩ (.int .i64 (s0_1 + a1)) = W0 at hI1 hB1 hK1 ⊢
 have hw3 : wrap64 (s0_1 + a1 - a1) = s0_1 := by unfold wrap64; omega
 have hw5 : IntKind.i64.wrap (s0_1 + a1 - a1) = s0_1 := (IntKind.wrap_i64 _).trans (by omega)
 have hlen : ((s0_0.drop s0_1.toNat).take a1.toNat).length = a1.toNat := by rw [List.length_take, List.length_drop]; omega
 have hxy : (s0_0.take (s0_1 + a1).toNat).drop s0_1.toNat = (s0_0.drop s0_1.toNat).take a1.toNat := by rw [List.drop_take]; congr 1; omega
 have hst : (s0_1 + a1).toNat - s0_1.toNat = ((s0_0.drop s0_1.toNat).take a1.toNat).length := by rw [hlen]; omega
 have hl1 : s0_1 ≤ s0_1 + a1 := by omega
 have hl2 : s0_1 + a1 ≤ (s0_0.length : Int) := by omega
 have hl3 : (s0_1 + a1).toNat ≤ s0_0.length := by omega
 have hl4 : s0_1.toNat ≤ (s0_1 + a1).toNat := by omega
 have hfc : bytes_Clone.f ((s0_0.drop s0_1.toNat).take a1.toNat) = some ((s0_0.drop s0_1.toNat).take a1.toNat) := by unfold bytes_Clone.f; rw [if_pos (by rw [hlen]; omega)]
 have hsz0 : w'.heap.size ≤ W0.heap.size := hK1.1; clear hc0 hc1 hc2 hr hf hb hfz hw2 hw hI hI0 h2 d2 d1 h1; generalize hT : s0_1 + a1 = t1 at *; generalize hL : (s0_0.drop s0_1.toNat).take a1.toNat = l1 at *; have HT := Aside0.mk hT; have HL := Aside0.mk hL; clear hT hL; have hI2 := hI1.drew; rw [h0] at hI2; obtain ⟨A1, c1, ev1, hbA, hcA0, hcA1, _, _, hrA, _⟩ := hI1.open; obtain ⟨_, hcc, hC⟩ := Kd.R_reads' hrA; have hmid := Kd.C_mid hC hl4 hl3 hcc; rw [hxy] at hmid
 have hmid : (Kd.int .u8).C W0 (if c1 = s0_1.toNat then A1 else A1.map (fun x => x.add s0_1.toNat)) l1.length l1 := by simpa [Kd.int, Kd.scalar] using hmid
 have hle : l1.length ≤ c1 - s0_1.toNat := by omega
 have hl5 : t1 ≤ (c1 : Int) := by omega
 clear hrA hC hbA hxy hlen hl2 hl3 hl4 hb2 hb3; have hKC : Kd.C (Kd.int .u8) W0.drew (if c1 = s0_1.toNat then A1 else A1.map (fun x => x.add s0_1.toNat)) l1.length l1 := Kd.C_below hmid (below_drew1 (Below.refl _ _)); have hdr : Below W0.heap.size W0 W0.drew := below_drew1 (Below.refl _ _)
 by_cases hcs : c1 = s0_1.toNat
 ·rw [if_pos hcs] at hKC; subst hcs
  go_region_with (go_at_call 31; refine (bytes_Clone.calls _ _ l1 l1 W0.drew hKC (by omega) hfc).mono ?_; rintro e w1 ⟨v, rfl, hR, hB2⟩)
  all_goals (go_wp2; go_ret; exact ⟨_, rfl, by rw [HL.out]; exact Kd.R_lower hR hsz0, by rw [HT.out]; exact hI2.below hB2, below_step (below_drew1 hB1) hB2, (keep_drew hK1).trans (KeepBut.of_below hB2 g none) (.inl rfl)⟩)
 ·rw [if_neg hcs] at hKC
  go_region_with (go_at_call 31; refine (bytes_Clone.calls _ _ l1 l1 W0.drew hKC hle hfc).mono ?_; rintro e w1 ⟨v, rfl, hR, hB2⟩)
  all_goals (go_wp2; go_ret; exact ⟨_, rfl, by rw [HL.out]; exact Kd.R_lower hR hsz0, by rw [HT.out]; exact hI2.below hB2, below_step (below_drew1 hB1) hB2, (keep_drew hK1).trans (KeepBut.of_below hB2 g none) (.inl rfl)⟩)

/-! ### num_Reader_Fix: function 33 -/
def num_Reader_Fix.f (k : Nat) (s0_0 : List Int) (s0_1 : Int) (s0_2 : Int) (s0_3 : Int) (a1 : Int) : Option (Int × Int × Int × Int) := if a1 = 1 then (num_Reader_Take.f s0_0 s0_1 s0_2 s0_3 1).bind fun x => if 0 ≤ x.1.getD 0 0 ∧ x.1.getD 0 0 < 256 then some (x.1.getD 0 0, x.2.1, x.2.2.1, x.2.2.2) else none else none
theorem num_Reader_Fix.or_zero {y : Int} (h0 : 0 ≤ y) (h1 : y < 256) : bits BinOp.or IntKind.u64 0 y = y := by
 have : ∀ n : Fin 256, bits BinOp.or IntKind.u64 0 (n.1 : Int) = n.1 := by decide +kernel
 have := this ⟨y.toNat, by omega⟩
 simpa [Int.toNat_of_nonneg h0] using this
set_option maxRecDepth 100000 in
set_option maxHeartbeats 8000000 in
theorem num_Reader_Fix.calls (k : Nat) (g : Nat) (s0_0 : List Int) (s0_1 : Int) (s0_2 : Int) (s0_3 : Int) (a1 : Int) (r1 : Int) (r2 : Int) (r3 : Int) (r4 : Int) (w0 w : World) (hI : IsS73 w0 w g s0_0 s0_1 s0_2 s0_3) (hB : Below w0.heap.size w0 w) (h : num_Reader_Fix.f k s0_0 s0_1 s0_2 s0_3 a1 = some (r1, r2, r3, r4)) :
  Calls Tryz.prog 33 #[.pointer (some ⟨g, 0, none⟩), .int .i64 a1] w fun e w' => e = .returned (.int .u64 r1) ∧ IsS73 w0 w' g s0_0 r2 r3 r4 ∧ Below w0.heap.size w0 w' ∧ KeepBut w w' g none := by
 unfold num_Reader_Fix.f at h
 by_cases ha : a1 = 1
 case neg => rw [if_neg ha] at h; cases h
 rw [if_pos ha] at h; subst ha
 cases hx : num_Reader_Take.f s0_0 s0_1 s0_2 s0_3 1 with
 | none => rw [hx] at h; cases h
 | some x =>
  rw [hx] at h; obtain ⟨b, x2, x3, x4⟩ := x; have h2 : (if 0 ≤ b.getD 0 0 ∧ b.getD 0 0 < 256 then some (b.getD 0 0, x2, x3, x4) else none) = some (r1, r2, r3, r4) := h; clear h
  by_cases hb : 0 ≤ b.getD 0 0 ∧ b.getD 0 0 < 256
  case neg => rw [if_neg hb] at h2; cases h2
  rw [if_pos hb] at h2; simp only [Option.some.injEq, Prod.mk.injEq] at h2; obtain ⟨rfl, rfl, rfl, rfl⟩ := h2; have hT := Aside0.mk (num_Reader_Take.calls g s0_0 s0_1 s0_2 s0_3 1 b x2 x3 x4 w0 w hI hB hx)
  have hlen : b = [] ∨ ∃ y, b = [y] := by
   unfold num_Reader_Take.f at hx
   split at hx
   ·split at hx
    ·simp only [Option.some.injEq, Prod.mk.injEq] at hx; exact .inl hx.1.symm
    ·split at hx
     ·simp only [Option.some.injEq, Prod.mk.injEq] at hx; exact .inl hx.1.symm
     ·split at hx
      ·simp only [Option.some.injEq, Prod.mk.injEq] at hx; exact .inl hx.1.symm
      ·simp only [Option.some.injEq, Prod.mk.injEq] at hx
       have hl : b.length ≤ 1 := by rw [← hx.1, List.length_take]; exact Nat.min_le_left _ _
       match b, hl with
       | [], _ => exact .inl rfl
       | [y], _ => exact .inr ⟨y, rfl⟩
   ·cases hx
  clear hI hB hx
  rcases hlen with rfl | ⟨y, rfl⟩
  ·go_enter Tryz.func33, Tryz.ntmps33
   go_wp2_with (go_at_call 22; (with_reducible refine hT.out.mono ?_); rintro e w1 ⟨v, rfl, hR, hI2, hB2, hK⟩; obtain ⟨A, c, rfl⟩ := Kd.R_slice hR; have I2 := Aside0.mk hI2; have B2 := Aside0.mk hB2; have K2 := Aside0.mk hK; clear hR hI2 hB2 hK)
   go_ret
   exact ⟨rfl, I2.out, B2.out, K2.out⟩
  ·have hy : 0 ≤ y ∧ y < 256 := hb; go_enter Tryz.func33, Tryz.ntmps33
   go_wp2_with (go_at_call 22; (with_reducible refine hT.out.mono ?_); rintro e w1 ⟨v, rfl, hR, hI2, hB2, hK⟩; obtain ⟨A, c, rfl⟩ := Kd.R_slice hR; obtain ⟨ad, rfl, q0⟩ := Kd.at_int (Kd.R_reads' hR).2.2 0 (by decide) (by simp); have q1 : w1.cell? ad = some (.int .u8 y) := q0; clear q0; have I2 := Aside0.mk hI2; have B2 := Aside0.mk hB2; have K2 := Aside0.mk hK; clear hR hI2 hB2 hK)
   go_ret
   exact ⟨by rw [num_Reader_Fix.or_zero hy.1 hy.2]; rfl, I2.out, B2.out, K2.out⟩

/-! ### bits_Unpack: function 40 -/
mutual
def bits_Unpack.l0 : Nat → List Int → Int → List Int → Int → Int → Int → Option (List Int × Int)
 | 0, _, _, _, _, _, _ => none
 | k + 1, x0, x2, x9, x10, x51, x52 => if x52 < x51 then (bits_Unpack.l1 k x0 x2 x9 x10 0 0 x51 x52) else (some (x9, 0))
def bits_Unpack.l1 : Nat → List Int → Int → List Int → Int → Int → Int → Int → Int → Option (List Int × Int)
 | 0, _, _, _, _, _, _, _, _ => none
 | k + 1, x0, x2, x9, x10, x11, x12, x51, x52 => if x12 = x2 then (if x9.length < 17592186044416 then (bits_Unpack.l0 k x0 x2 (x9 ++ [x11]) x10 x51 (wrap64 (x52 + 1))) else (none)) else (if 0 ≤ (wrap64 (Int.tdiv x10 8)) then (if (wrap64 (Int.tdiv x10 8)) < (x0.length : Int) then (if 0 ≤ (IntKind.u64.wrap (Int.tmod x10 8)) then (if 0 ≤ (IntKind.u64.wrap (mn (wrap64 (8 - (Int.tmod x10 8))) (wrap64 (x2 - x12)))) then (if 0 ≤ (IntKind.u64.wrap (x12)) then (bits_Unpack.l1 k x0 x2 x9 (wrap64 (x10 + (mn (wrap64 (8 - (Int.tmod x10 8))) (wrap64 (x2 - x12))))) (Go.bits .or .u64 x11 (shl .u64 (Go.bits .and .u64 (IntKind.u64.wrap (shr .u8 (rd x0 (wrap64 (Int.tdiv x10 8))) (IntKind.u64.wrap (Int.tmod x10 8)))) (IntKind.u64.wrap ((shl .u64 1 (IntKind.u64.wrap (mn (wrap64 (8 - (Int.tmod x10 8))) (wrap64 (x2 - x12))))) - 1))) (IntKind.u64.wrap (x12)))) (wrap64 (x12 + (mn (wrap64 (8 - (Int.tmod x10 8))) (wrap64 (x2 - x12))))) x51 x52) else (none)) else (none)) else (none)) else (none)) else (none))
end
def bits_Unpack.f (k : Nat) (l0 : List Int) (a1 : Int) (a2 : Int) : Option (List Int × Int) := (bits_Size.f a1 a2).bind fun t222 => (if t222 < 0 then (some (([] : List Int), 1)) else (if (l0.length : Int) < t222 then (some (([] : List Int), 2)) else (if (l0.length : Int) > t222 then (some (([] : List Int), 3)) else (if (Int.tmod (wrap64 (a1 * a2)) 8) = 0 then (bits_Unpack.l0 k l0 a2 ([] : List Int) 0 a1 0) else (if 0 ≤ (wrap64 (t222 - 1)) then (if (wrap64 (t222 - 1)) < (l0.length : Int) then (if 0 ≤ (IntKind.u64.wrap (Int.tmod (wrap64 (a1 * a2)) 8)) then (if (shr .u8 (rd l0 (wrap64 (t222 - 1))) (IntKind.u64.wrap (Int.tmod (wrap64 (a1 * a2)) 8))) = 0 then (bits_Unpack.l0 k l0 a2 ([] : List Int) 0 a1 0) else (some (([] : List Int), 4))) else (none)) else (none)) else (none))))))
set_option maxHeartbeats 8000000 in
set_option maxRecDepth 100000 in
theorem bits_Unpack.calls (k : Nat) (A0 : Option Addr) (c0 : Nat) (l0 : List Int) (a1 : Int) (a2 : Int) (r1 : List Int) (r2 : Int) (w : World) (hr0 : Kd.C (Kd.int .u8) w A0 l0.length l0) (hc0 : l0.length ≤ c0) (h : bits_Unpack.f k l0 a1 a2 = some (r1, r2)) :
  Calls Tryz.prog 40 #[.slice A0 l0.length c0, .int .i64 a1, .int .i64 a2] w fun e w' => ∃ v0_ : Value, e = .returned (.tuple #[v0_, .int .i64 r2]) ∧ Kd.R (Kd.int .u64) 75 w' w.heap.size (fun _ => True) v0_ r1 ∧ Below w.heap.size w w' := by
 have HR0 := Aside0.mk hr0; have HC0 := Aside0.mk hc0; clear hr0 hc0; have HB := Aside0.mk (Below.refl w.heap.size w); have H : ((bits_Size.f a1 a2).bind fun t222 => (if t222 < 0 then (some (([] : List Int), 1)) else (if (l0.length : Int) < t222 then (some (([] : List Int), 2)) else (if (l0.length : Int) > t222 then (some (([] : List Int), 3)) else (if (Int.tmod (wrap64 (a1 * a2)) 8) = 0 then (bits_Unpack.l0 k l0 a2 ([] : List Int) 0 a1 0) else (if 0 ≤ (wrap64 (t222 - 1)) then (if (wrap64 (t222 - 1)) < (l0.length : Int) then (if 0 ≤ (IntKind.u64.wrap (Int.tmod (wrap64 (a1 * a2)) 8)) then (if (shr .u8 (rd l0 (wrap64 (t222 - 1))) (IntKind.u64.wrap (Int.tmod (wrap64 (a1 * a2)) 8))) = 0 then (bits_Unpack.l0 k l0 a2 ([] : List Int) 0 a1 0) else (some (([] : List Int), 4))) else (none)) else (none)) else (none))))))) = some (r1, r2) := h; clear h; replace H := Option.bind_eq_some_iff.mp H; obtain ⟨t222, A40, H⟩ := H; (try dsimp only at H); have A4 := Aside0.mk A40; clear A40
 by_cases c5 : t222 < 0
 ·rw [if_pos c5] at H; have c5b0 := decide_eq_true c5; clear c5; simp only [Option.some.injEq, Prod.mk.injEq] at H; obtain ⟨rfl, rfl⟩ := H; go_enter Tryz.func40, Tryz.ntmps40
  go_wp2_with (first | (go_at_call 68; (with_reducible refine (bits_Size.calls a1 a2 t222 _ A4.out).mono ?_); rintro e w' ⟨rfl, ⟨nd, rfl⟩⟩))
  repeat (go_step3; try go_wp2_with (first | (go_at_call 68; (with_reducible refine (bits_Size.calls a1 a2 t222 _ A4.out).mono ?_); rintro e w' ⟨rfl, ⟨nd, rfl⟩⟩)))
  try rw [Exit.noGoto_ret]
  go_ret2
  exact ⟨_, ER, by first | exact Kd.R_nil _ _ _ _ _ | exact Kd.N_nil _ _ _ _ _ | exact Kd.V_nil _ _ _ _ _ | exact Kd.Q_nil _ _ _ _ _ | exact Kd.S_nil _ _ _ _ _, BU HB.out⟩
 ·rw [if_neg c5] at H; have c5b0 := decide_eq_false c5; clear c5
  by_cases c6 : (l0.length : Int) < t222
  ·rw [if_pos c6] at H; have c6b0 := decide_eq_true c6; clear c6; simp only [Option.some.injEq, Prod.mk.injEq] at H; obtain ⟨rfl, rfl⟩ := H; go_enter Tryz.func40, Tryz.ntmps40
   go_wp2_with (first | (go_at_call 68; (with_reducible refine (bits_Size.calls a1 a2 t222 _ A4.out).mono ?_); rintro e w' ⟨rfl, ⟨nd, rfl⟩⟩))
   repeat (go_step3; try go_wp2_with (first | (go_at_call 68; (with_reducible refine (bits_Size.calls a1 a2 t222 _ A4.out).mono ?_); rintro e w' ⟨rfl, ⟨nd, rfl⟩⟩)))
   try rw [Exit.noGoto_ret]
   go_ret2
   exact ⟨_, ER, by first | exact Kd.R_nil _ _ _ _ _ | exact Kd.N_nil _ _ _ _ _ | exact Kd.V_nil _ _ _ _ _ | exact Kd.Q_nil _ _ _ _ _ | exact Kd.S_nil _ _ _ _ _, BU HB.out⟩
  ·rw [if_neg c6] at H; have c6b0 := decide_eq_false c6; clear c6
   by_cases c7 : (l0.length : Int) > t222
   ·rw [if_pos c7] at H; have c7b0 : decide (t222 < (l0.length : Int)) = true := decide_eq_true c7; clear c7; simp only [Option.some.injEq, Prod.mk.injEq] at H; obtain ⟨rfl, rfl⟩ := H; go_enter Tryz.func40, Tryz.ntmps40
    go_wp2_with (first | (go_at_call 68; (with_reducible refine (bits_Size.calls a1 a2 t222 _ A4.out).mono ?_); rintro e w' ⟨rfl, ⟨nd, rfl⟩⟩))
    repeat (go_step3; try go_wp2_with (first | (go_at_call 68; (with_reducible refine (bits_Size.calls a1 a2 t222 _ A4.out).mono ?_); rintro e w' ⟨rfl, ⟨nd, rfl⟩⟩)))
    try rw [Exit.noGoto_ret]
    go_ret2
    exact ⟨_, ER, by first | exact Kd.R_nil _ _ _ _ _ | exact Kd.N_nil _ _ _ _ _ | exact Kd.V_nil _ _ _ _ _ | exact Kd.Q_nil _ _ _ _ _ | exact Kd.S_nil _ _ _ _ _, BU HB.out⟩
   ·rw [if_neg c7] at H; have c7b0 : decide (t222 < (l0.length : Int)) = false := decide_eq_false c7; clear c7
    by_cases c8 : (Int.tmod (wrap64 (a1 * a2)) 8) = 0
    ·rw [if_pos c8] at H; have c8b0 : ((Int.tmod (wrap64 (a1 * a2)) 8) == 0) = true := beq_iff_eq.mpr c8; have c8b1 : ((Int.tmod (wrap64 (a1 * a2)) 8) != 0) = false := bne_eq_false_iff_eq.mpr c8; clear c8; have H' := Aside0.mk H; clear H; go_enter Tryz.func40, Tryz.ntmps40
     go_wp2_with (first | (go_at_call 68; (with_reducible refine (bits_Size.calls a1 a2 t222 _ A4.out).mono ?_); rintro e w' ⟨rfl, ⟨nd, rfl⟩⟩))
     repeat (go_step3; try go_wp2_with (first | (go_at_call 68; (with_reducible refine (bits_Size.calls a1 a2 t222 _ A4.out).mono ?_); rintro e w' ⟨rfl, ⟨nd, rfl⟩⟩)))
     go_loopg [9, 10, 52] k (fun kq v9 v10 v52 w' => ∃ (x9_1 : List Int) (x10_1 : Int) (x52_1 : Int), v10 = .int .i64 x10_1 ∧ v52 = .int .i64 x52_1 ∧ Aside0 (bits_Unpack.l0 kq l0 a2 x9_1 x10_1 a1 x52_1 = some (r1, r2)) ∧ Aside0 (kq ≤ k) ∧ Aside0 (Kd.R (Kd.int .u64) 75 w' w.heap.size (fun _ => True) v9 x9_1) ∧ Aside0 (Below w.heap.size w w'))
     case atStart => exact ⟨(([] : List Int)), (0), (0), EB, EB, H', ⟨Nat.le_refl _⟩, ⟨by first | exact Kd.R_nil _ _ _ _ _ | exact Kd.N_nil _ _ _ _ _ | exact Kd.V_nil _ _ _ _ _ | exact Kd.Q_nil _ _ _ _ _ | exact Kd.S_nil _ _ _ _ _⟩, ⟨BU HB.out⟩⟩
     case round =>
      clear H'; (try clear p2); (try clear p3); (try clear c4); (try clear c5); (try clear c5b0); (try clear c6); (try clear c6b0); (try clear p6); (try clear c7); (try clear c7b0); (try clear c8); (try clear c8b0); (try clear c8b1); obtain ⟨x9_1, x10_1, x52_1, rfl, rfl, HA, HK1, HO_9, HB⟩ := hrel
      cases gk with
      | zero => exact absurd HA.out (by simp [bits_Unpack.l0])
      | succ k1 =>
       have H := HA.out; clear HA; simp only [bits_Unpack.l0] at H
       by_cases c9 : x52_1 < a1
       ·rw [if_pos c9] at H; have c9b0 := decide_eq_true c9; clear c9; have H' := Aside0.mk H; clear H; go_wp2
        repeat (go_step3; try go_wp2)
        go_loopg [9, 10, 11, 12] k1 (fun kq v9 v10 v11 v12 w' => ∃ (x9_2 : List Int) (x10_2 : Int) (x11_2 : Int) (x12_2 : Int), v10 = .int .i64 x10_2 ∧ v11 = .int .u64 x11_2 ∧ v12 = .int .i64 x12_2 ∧ Aside0 (bits_Unpack.l1 kq l0 a2 x9_2 x10_2 x11_2 x12_2 a1 x52_1 = some (r1, r2)) ∧ Aside0 (kq ≤ k1) ∧ Aside0 (Kd.R (Kd.int .u64) 75 w' w.heap.size (fun _ => True) v9 x9_2) ∧ Aside0 (Below w.heap.size w w'))
        case atStart => exact ⟨(x9_1), (x10_1), (0), (0), EB, EB, EB, H', ⟨Nat.le_refl _⟩, ⟨RU HO_9.out⟩, ⟨BU HB.out⟩⟩
        case round =>
         clear H'; (try clear p2); (try clear p3); (try clear c4); (try clear c5); (try clear c5b0); (try clear c6); (try clear c6b0); (try clear p6); (try clear c7); (try clear c7b0); (try clear c8); (try clear c8b0); (try clear c8b1); (try clear c9); (try clear c9b0); (try clear p2); (try clear p3); (try clear p6); obtain ⟨x9_2, x10_2, x11_2, x12_2, rfl, rfl, rfl, HA, HK2, HO_9, HB⟩ := hrel
         cases gk with
         | zero => exact absurd HA.out (by simp [bits_Unpack.l1])
         | succ k2 =>
          have H := HA.out; clear HA; simp only [bits_Unpack.l1] at H
          by_cases c10 : x12_2 = a2
          ·rw [if_pos c10] at H; have c10b0 : (x12_2 == a2) = true := beq_iff_eq.mpr c10; have c10b1 : (x12_2 != a2) = false := bne_eq_false_iff_eq.mpr c10; clear c10
           by_cases c11 : x9_2.length < 17592186044416
           ·rw [if_pos c11] at H; have LMc11 := Aside0.mk c11; clear c11
            obtain ⟨y223, hy223⟩ : ∃ y_ : List Int, y_ = (x9_2 ++ [x11_2]) := ⟨_, rfl⟩
            replace H : (bits_Unpack.l0 k2 l0 a2 y223 x10_2 a1 (wrap64 (x52_1 + 1))) = some (r1, r2) := HY hy223 H; have Ny223 := Aside0.mk hy223; clear hy223; have H' := Aside0.mk H; clear H
            go_wp2_with (first | ((with_reducible refine gate_builtin (b := .append) (xs := #[.tmp 57, .tmp 59]) rfl ?_); at_builtin; refine Kd.R_append (Kd.int .u64) (w0 := w) w.heap.size rfl (.tmp 57) (.tmp 59) 83 75 (.int .u64 0) 8 rfl Tryz.underlying83 info75 rfl (by decide) (by omega) u9 x9_2 x11_2 [.int .u64 x11_2] (fun _ => True) (fun _ => False) rfl rfl ?aP (fun _ hk => hk.elim) ?aF ?aO ?aB ?aS ?aL ?_; (case aP => exact rfl); (case aB => exact (BU HB.out)); (case aF => exact (fun _ _ => trivial)); (case aO => exact (RU HO_9.out)); (case aS => exact (below_size (BU HB.out))); (case aL => have := LMc11.out; omega); intro v224 w12 ho hb hg hat; rw [← Ny223.out] at ho; replace HB := Aside0.mk hb; have HO225 := Aside0.mk ho; clear HO_9; clear ho hb hg hat))
            repeat (go_step3; try go_wp2_with (first | ((with_reducible refine gate_builtin (b := .append) (xs := #[.tmp 57, .tmp 59]) rfl ?_); at_builtin; refine Kd.R_append (Kd.int .u64) (w0 := w) w.heap.size rfl (.tmp 57) (.tmp 59) 83 75 (.int .u64 0) 8 rfl Tryz.underlying83 info75 rfl (by decide) (by omega) u9 x9_2 x11_2 [.int .u64 x11_2] (fun _ => True) (fun _ => False) rfl rfl ?aP (fun _ hk => hk.elim) ?aF ?aO ?aB ?aS ?aL ?_; (case aP => exact rfl); (case aB => exact (BU HB.out)); (case aF => exact (fun _ _ => trivial)); (case aO => exact (RU HO_9.out)); (case aS => exact (below_size (BU HB.out))); (case aL => have := LMc11.out; omega); intro v224 w12 ho hb hg hat; rw [← Ny223.out] at ho; replace HB := Aside0.mk hb; have HO225 := Aside0.mk ho; clear HO_9; clear ho hb hg hat)))
            go_roundg k2
            case measure => have := HK1.out; have := HK2.out; omega
            case rel => exact ⟨(y223), (x10_2), (wrap64 (x52_1 + 1)), EB, EB, H', ⟨by have := HK1.out; have := HK2.out; omega⟩, ⟨RU HO225.out⟩, ⟨BU HB.out⟩⟩
           ·rw [if_neg c11] at H; exact absurd H (by simp)
          ·rw [if_neg c10] at H; have c10b0 : (x12_2 == a2) = false := beq_eq_false_iff_ne.mpr c10; have c10b1 : (x12_2 != a2) = true := bne_iff_ne.mpr c10
           obtain ⟨ji13, hji13⟩ : ∃ j_ : Int, (mn (wrap64 (8 - (Int.tmod x10_2 8))) (wrap64 (a2 - x12_2))) = j_ := ⟨_, rfl⟩
           replace H : (if 0 ≤ (wrap64 (Int.tdiv x10_2 8)) then (if (wrap64 (Int.tdiv x10_2 8)) < (l0.length : Int) then (if 0 ≤ (IntKind.u64.wrap (Int.tmod x10_2 8)) then (if 0 ≤ (IntKind.u64.wrap (ji13)) then (if 0 ≤ (IntKind.u64.wrap (x12_2)) then (bits_Unpack.l1 k2 l0 a2 x9_2 (wrap64 (x10_2 + (ji13))) (Go.bits .or .u64 x11_2 (shl .u64 (Go.bits .and .u64 (IntKind.u64.wrap (shr .u8 (rd l0 (wrap64 (Int.tdiv x10_2 8))) (IntKind.u64.wrap (Int.tmod x10_2 8)))) (IntKind.u64.wrap ((shl .u64 1 (IntKind.u64.wrap (ji13))) - 1))) (IntKind.u64.wrap (x12_2)))) (wrap64 (x12_2 + (ji13))) a1 x52_1) else (none)) else (none)) else (none)) else (none)) else (none)) = some (r1, r2) := by first | (rw [hji13] at H; exact H) | (simp only [hji13] at H ⊢; exact H)
           have hji13_ : (if (wrap64 (a2 - x12_2)) < (wrap64 (8 - (Int.tmod x10_2 8))) then (wrap64 (a2 - x12_2)) else (wrap64 (8 - (Int.tmod x10_2 8)))) = ji13 := hji13
           obtain ⟨ji14, hji14⟩ : ∃ j_ : Int, (wrap64 (Int.tdiv x10_2 8)) = j_ := ⟨_, rfl⟩
           replace H : (if 0 ≤ (ji14) then (if (ji14) < (l0.length : Int) then (if 0 ≤ (IntKind.u64.wrap (Int.tmod x10_2 8)) then (if 0 ≤ (IntKind.u64.wrap (ji13)) then (if 0 ≤ (IntKind.u64.wrap (x12_2)) then (bits_Unpack.l1 k2 l0 a2 x9_2 (wrap64 (x10_2 + (ji13))) (Go.bits .or .u64 x11_2 (shl .u64 (Go.bits .and .u64 (IntKind.u64.wrap (shr .u8 (rd l0 (ji14)) (IntKind.u64.wrap (Int.tmod x10_2 8)))) (IntKind.u64.wrap ((shl .u64 1 (IntKind.u64.wrap (ji13))) - 1))) (IntKind.u64.wrap (x12_2)))) (wrap64 (x12_2 + (ji13))) a1 x52_1) else (none)) else (none)) else (none)) else (none)) else (none)) = some (r1, r2) := by first | (rw [hji14] at H; exact H) | (simp only [hji14] at H ⊢; exact H)
           have hji14w : (IntKind.i64.wrap (Int.tdiv x10_2 8)) = ji14 := (i64_w _).trans hji14
           by_cases c15 : 0 ≤ (ji14)
           ·rw [if_pos c15] at H; have c15b0 := decide_eq_true c15; clear c15
            by_cases c16 : (ji14) < (l0.length : Int)
            ·rw [if_pos c16] at H; have c16b0 := decide_eq_true c16; clear c16
             obtain ⟨ji17, hji17⟩ : ∃ j_ : Int, (IntKind.u64.wrap (Int.tmod x10_2 8)) = j_ := ⟨_, rfl⟩
             replace H : (if 0 ≤ (ji17) then (if 0 ≤ (IntKind.u64.wrap (ji13)) then (if 0 ≤ (IntKind.u64.wrap (x12_2)) then (bits_Unpack.l1 k2 l0 a2 x9_2 (wrap64 (x10_2 + (ji13))) (Go.bits .or .u64 x11_2 (shl .u64 (Go.bits .and .u64 (IntKind.u64.wrap (shr .u8 (rd l0 (ji14)) (ji17))) (IntKind.u64.wrap ((shl .u64 1 (IntKind.u64.wrap (ji13))) - 1))) (IntKind.u64.wrap (x12_2)))) (wrap64 (x12_2 + (ji13))) a1 x52_1) else (none)) else (none)) else (none)) = some (r1, r2) := by first | (rw [hji17] at H; exact H) | (simp only [hji17] at H ⊢; exact H)
             by_cases c18 : 0 ≤ (ji17)
             ·rw [if_pos c18] at H; have c18b0 := eq_true c18; have c18b1 := decide_eq_true c18; clear c18
              obtain ⟨ji19, hji19⟩ : ∃ j_ : Int, (shr .u8 (rd l0 (ji14)) (ji17)) = j_ := ⟨_, rfl⟩
              replace H : (if 0 ≤ (IntKind.u64.wrap (ji13)) then (if 0 ≤ (IntKind.u64.wrap (x12_2)) then (bits_Unpack.l1 k2 l0 a2 x9_2 (wrap64 (x10_2 + (ji13))) (Go.bits .or .u64 x11_2 (shl .u64 (Go.bits .and .u64 (IntKind.u64.wrap (ji19)) (IntKind.u64.wrap ((shl .u64 1 (IntKind.u64.wrap (ji13))) - 1))) (IntKind.u64.wrap (x12_2)))) (wrap64 (x12_2 + (ji13))) a1 x52_1) else (none)) else (none)) = some (r1, r2) := by first | (rw [hji19] at H; exact H) | (simp only [hji19] at H ⊢; exact H)
              have hji19_ : ((rd l0 (ji14)) / 2 ^ min (ji17).toNat 8) = ji19 := hji19; have hji19z : (ji17) ≤ 8 → ((rd l0 (ji14)) / 2 ^ (ji17).toNat) = ji19 := shr_small hji19
              obtain ⟨ji20, hji20⟩ : ∃ j_ : Int, (IntKind.u64.wrap (ji13)) = j_ := ⟨_, rfl⟩
              replace H : (if 0 ≤ (ji20) then (if 0 ≤ (IntKind.u64.wrap (x12_2)) then (bits_Unpack.l1 k2 l0 a2 x9_2 (wrap64 (x10_2 + (ji13))) (Go.bits .or .u64 x11_2 (shl .u64 (Go.bits .and .u64 (IntKind.u64.wrap (ji19)) (IntKind.u64.wrap ((shl .u64 1 (ji20)) - 1))) (IntKind.u64.wrap (x12_2)))) (wrap64 (x12_2 + (ji13))) a1 x52_1) else (none)) else (none)) = some (r1, r2) := by first | (rw [hji20] at H; exact H) | (simp only [hji20] at H ⊢; exact H)
              by_cases c21 : 0 ≤ (ji20)
              ·rw [if_pos c21] at H; have c21b0 := eq_true c21; have c21b1 := decide_eq_true c21; clear c21
               obtain ⟨ji22, hji22⟩ : ∃ j_ : Int, (shl .u64 1 (ji20)) = j_ := ⟨_, rfl⟩
               replace H : (if 0 ≤ (IntKind.u64.wrap (x12_2)) then (bits_Unpack.l1 k2 l0 a2 x9_2 (wrap64 (x10_2 + (ji13))) (Go.bits .or .u64 x11_2 (shl .u64 (Go.bits .and .u64 (IntKind.u64.wrap (ji19)) (IntKind.u64.wrap ((ji22) - 1))) (IntKind.u64.wrap (x12_2)))) (wrap64 (x12_2 + (ji13))) a1 x52_1) else (none)) = some (r1, r2) := by first | (rw [hji22] at H; exact H) | (simp only [hji22] at H ⊢; exact H)
               have hji22_ : (IntKind.u64.wrap (1 * 2 ^ min (ji20).toNat 64)) = ji22 := hji22; have hji22z : (ji20) ≤ 64 → (IntKind.u64.wrap (1 * 2 ^ (ji20).toNat)) = ji22 := shl_small hji22
               have hji22u : (IntKind.u64.wrap (2 ^ min (ji20).toNat 64)) = ji22 := by have h_ := hji22_; rw [Int.one_mul] at h_; exact h_
               have hji22v : (ji20) ≤ 64 → (IntKind.u64.wrap (2 ^ (ji20).toNat)) = ji22 := fun hle_ => by have h_ := hji22z hle_; rw [Int.one_mul] at h_; exact h_
               obtain ⟨ji23, hji23⟩ : ∃ j_ : Int, (IntKind.u64.wrap (x12_2)) = j_ := ⟨_, rfl⟩
               replace H : (if 0 ≤ (ji23) then (bits_Unpack.l1 k2 l0 a2 x9_2 (wrap64 (x10_2 + (ji13))) (Go.bits .or .u64 x11_2 (shl .u64 (Go.bits .and .u64 (IntKind.u64.wrap (ji19)) (IntKind.u64.wrap ((ji22) - 1))) (ji23))) (wrap64 (x12_2 + (ji13))) a1 x52_1) else (none)) = some (r1, r2) := by first | (rw [hji23] at H; exact H) | (simp only [hji23] at H ⊢; exact H)
               by_cases c24 : 0 ≤ (ji23)
               ·rw [if_pos c24] at H; have c24b0 := eq_true c24; have c24b1 := decide_eq_true c24; clear c24
                obtain ⟨ji25, hji25⟩ : ∃ j_ : Int, (shl .u64 (Go.bits .and .u64 (IntKind.u64.wrap (ji19)) (IntKind.u64.wrap ((ji22) - 1))) (ji23)) = j_ := ⟨_, rfl⟩
                replace H : (bits_Unpack.l1 k2 l0 a2 x9_2 (wrap64 (x10_2 + (ji13))) (Go.bits .or .u64 x11_2 (ji25)) (wrap64 (x12_2 + (ji13))) a1 x52_1) = some (r1, r2) := by first | (rw [hji25] at H; exact H) | (simp only [hji25] at H ⊢; exact H)
                have hji25_ : (IntKind.u64.wrap ((Go.bits .and .u64 (IntKind.u64.wrap (ji19)) (IntKind.u64.wrap ((ji22) - 1))) * 2 ^ min (ji23).toNat 64)) = ji25 := hji25; have hji25z : (ji23) ≤ 64 → (IntKind.u64.wrap ((Go.bits .and .u64 (IntKind.u64.wrap (ji19)) (IntKind.u64.wrap ((ji22) - 1))) * 2 ^ (ji23).toNat)) = ji25 := shl_small hji25; have H' := Aside0.mk H; clear H; have p226 : 0 ≤ ((ji14) : Int) := OD; have q226 : (ji14) < (l0.length : Int) := OD; obtain ⟨ad226, e226, hx226_0⟩ := Kd.at_int HR0.out (ji14) p226 q226
                cases e226
                replace hx226_0 := (HB.out.cell (World.block_lt_of_cell? w _ hx226_0)).trans hx226_0; replace p226 := eq_true p226; replace q226 := eq_true q226; go_wp2
                repeat (go_step3; try go_wp2)
                go_roundg k2
                case measure => have := HK1.out; have := HK2.out; omega
                case rel => exact ⟨(x9_2), (wrap64 (x10_2 + (ji13))), (Go.bits .or .u64 x11_2 (ji25)), (wrap64 (x12_2 + (ji13))), (by first | rfl | (simp; done) | (simp only [← hji13] <;> (first | rfl | simp)) | (simp [*]; done)), (by first | rfl | (simp; done) | (simp only [← hji25] <;> (first | rfl | simp)) | (simp [*]; done)), (by first | rfl | (simp; done) | (simp only [← hji13] <;> (first | rfl | simp)) | (simp [*]; done)), H', ⟨by have := HK1.out; have := HK2.out; omega⟩, ⟨RU HO_9.out⟩, ⟨BU HB.out⟩⟩
               ·rw [if_neg c24] at H; exact absurd H (by simp)
              ·rw [if_neg c21] at H; exact absurd H (by simp)
             ·rw [if_neg c18] at H; exact absurd H (by simp)
            ·rw [if_neg c16] at H; exact absurd H (by simp)
           ·rw [if_neg c15] at H; exact absurd H (by simp)
       ·rw [if_neg c9] at H; have c9b0 := decide_eq_false c9; clear c9; simp only [Option.some.injEq, Prod.mk.injEq] at H; obtain ⟨rfl, rfl⟩ := H; go_wp2
        repeat (go_step3; try go_wp2)
        try rw [Exit.noGoto_ret]
        go_ret2
        exact ⟨_, ER, RU HO_9.out, BU HB.out⟩
    ·rw [if_neg c8] at H; have c8b0 : ((Int.tmod (wrap64 (a1 * a2)) 8) == 0) = false := beq_eq_false_iff_ne.mpr c8; have c8b1 : ((Int.tmod (wrap64 (a1 * a2)) 8) != 0) = true := bne_iff_ne.mpr c8
     obtain ⟨ji26, hji26⟩ : ∃ j_ : Int, (wrap64 (t222 - 1)) = j_ := ⟨_, rfl⟩
     replace H : (if 0 ≤ (ji26) then (if (ji26) < (l0.length : Int) then (if 0 ≤ (IntKind.u64.wrap (Int.tmod (wrap64 (a1 * a2)) 8)) then (if (shr .u8 (rd l0 (ji26)) (IntKind.u64.wrap (Int.tmod (wrap64 (a1 * a2)) 8))) = 0 then (bits_Unpack.l0 k l0 a2 ([] : List Int) 0 a1 0) else (some (([] : List Int), 4))) else (none)) else (none)) else (none)) = some (r1, r2) := by first | (rw [hji26] at H; exact H) | (simp only [hji26] at H ⊢; exact H)
     (try rw [hji26] at A4)
     have hji26w : (IntKind.i64.wrap (t222 - 1)) = ji26 := (i64_w _).trans hji26
     by_cases c27 : 0 ≤ (ji26)
     ·rw [if_pos c27] at H; have c27b0 := decide_eq_true c27; clear c27
      by_cases c28 : (ji26) < (l0.length : Int)
      ·rw [if_pos c28] at H; have c28b0 := decide_eq_true c28; clear c28
       obtain ⟨ji29, hji29⟩ : ∃ j_ : Int, (IntKind.u64.wrap (Int.tmod (wrap64 (a1 * a2)) 8)) = j_ := ⟨_, rfl⟩
       replace H : (if 0 ≤ (ji29) then (if (shr .u8 (rd l0 (ji26)) (ji29)) = 0 then (bits_Unpack.l0 k l0 a2 ([] : List Int) 0 a1 0) else (some (([] : List Int), 4))) else (none)) = some (r1, r2) := by first | (rw [hji29] at H; exact H) | (simp only [hji29] at H ⊢; exact H)
       (try rw [hji29] at A4)
       by_cases c30 : 0 ≤ (ji29)
       ·rw [if_pos c30] at H; have c30b0 := eq_true c30; have c30b1 := decide_eq_true c30; clear c30
        obtain ⟨ji31, hji31⟩ : ∃ j_ : Int, (shr .u8 (rd l0 (ji26)) (ji29)) = j_ := ⟨_, rfl⟩
        replace H : (if (ji31) = 0 then (bits_Unpack.l0 k l0 a2 ([] : List Int) 0 a1 0) else (some (([] : List Int), 4))) = some (r1, r2) := by first | (rw [hji31] at H; exact H) | (simp only [hji31] at H ⊢; exact H)
        (try rw [hji31] at A4)
        have hji31_ : ((rd l0 (ji26)) / 2 ^ min (ji29).toNat 8) = ji31 := hji31; have hji31z : (ji29) ≤ 8 → ((rd l0 (ji26)) / 2 ^ (ji29).toNat) = ji31 := shr_small hji31
        by_cases c32 : (ji31) = 0
        ·rw [if_pos c32] at H; have c32b0 : ((ji31) == 0) = true := beq_iff_eq.mpr c32; have c32b1 : ((ji31) != 0) = false := bne_eq_false_iff_eq.mpr c32; clear c32; have H' := Aside0.mk H; clear H; go_enter Tryz.func40, Tryz.ntmps40
         go_wp2_with (first | (go_at_call 68; (with_reducible refine (bits_Size.calls a1 a2 t222 _ A4.out).mono ?_); rintro e w' ⟨rfl, ⟨nd, rfl⟩⟩; have p227 : 0 ≤ ((ji26) : Int) := OD; have q227 : (ji26) < (l0.length : Int) := OD; obtain ⟨ad227, e227, hx227_0⟩ := Kd.at_int HR0.out (ji26) p227 q227; cases e227; replace p227 := eq_true p227; replace q227 := eq_true q227))
         repeat (go_step3; try go_wp2_with (first | (go_at_call 68; (with_reducible refine (bits_Size.calls a1 a2 t222 _ A4.out).mono ?_); rintro e w' ⟨rfl, ⟨nd, rfl⟩⟩; have p227 : 0 ≤ ((ji26) : Int) := OD; have q227 : (ji26) < (l0.length : Int) := OD; obtain ⟨ad227, e227, hx227_0⟩ := Kd.at_int HR0.out (ji26) p227 q227; cases e227; replace p227 := eq_true p227; replace q227 := eq_true q227)))
         go_loopg [9, 10, 52] k (fun kq v9 v10 v52 w' => ∃ (x9_1 : List Int) (x10_1 : Int) (x52_1 : Int), v10 = .int .i64 x10_1 ∧ v52 = .int .i64 x52_1 ∧ Aside0 (bits_Unpack.l0 kq l0 a2 x9_1 x10_1 a1 x52_1 = some (r1, r2)) ∧ Aside0 (kq ≤ k) ∧ Aside0 (Kd.R (Kd.int .u64) 75 w' w.heap.size (fun _ => True) v9 x9_1) ∧ Aside0 (Below w.heap.size w w'))
         case atStart => exact ⟨(([] : List Int)), (0), (0), EB, EB, H', ⟨Nat.le_refl _⟩, ⟨by first | exact Kd.R_nil _ _ _ _ _ | exact Kd.N_nil _ _ _ _ _ | exact Kd.V_nil _ _ _ _ _ | exact Kd.Q_nil _ _ _ _ _ | exact Kd.S_nil _ _ _ _ _⟩, ⟨BU HB.out⟩⟩
         case round =>
          clear H'; (try clear c1); (try clear c2); (try clear p2); (try clear q2); (try clear hx2); (try clear c3); (try clear p3); (try clear c4); (try clear c5); (try clear c5b0); (try clear c6); (try clear c6b0); (try clear p6); (try clear c7); (try clear c7b0); (try clear c8); (try clear c8b0); (try clear c8b1); (try clear c9); (try clear c9b0); (try clear c10); (try clear c10b0); (try clear c10b1); (try clear c11); (try clear c15); (try clear c15b0); (try clear c16); (try clear c16b0); (try clear c18); (try clear c18b0); (try clear c18b1); (try clear c21); (try clear c21b0); (try clear c21b1); (try clear p22); (try clear q22); (try clear hx22); (try clear c24); (try clear c24b0); (try clear c24b1); (try clear c27); (try clear c27b0); (try clear c28); (try clear c28b0); (try clear c30); (try clear c30b0); (try clear c30b1); (try clear c32); (try clear c32b0); (try clear c32b1); (try clear hx226_0); (try clear hx227_0); (try clear p2); (try clear p226); (try clear p227); (try clear p3); (try clear p6); (try clear q226); (try clear q227); obtain ⟨x9_1, x10_1, x52_1, rfl, rfl, HA, HK1, HO_9, HB⟩ := hrel
          cases gk with
          | zero => exact absurd HA.out (by simp [bits_Unpack.l0])
          | succ k1 =>
           have H := HA.out; clear HA; simp only [bits_Unpack.l0] at H
           by_cases c33 : x52_1 < a1
           ·rw [if_pos c33] at H; have c33b0 := decide_eq_true c33; clear c33; have H' := Aside0.mk H; clear H; go_wp2
            repeat (go_step3; try go_wp2)
            go_loopg [9, 10, 11, 12] k1 (fun kq v9 v10 v11 v12 w' => ∃ (x9_2 : List Int) (x10_2 : Int) (x11_2 : Int) (x12_2 : Int), v10 = .int .i64 x10_2 ∧ v11 = .int .u64 x11_2 ∧ v12 = .int .i64 x12_2 ∧ Aside0 (bits_Unpack.l1 kq l0 a2 x9_2 x10_2 x11_2 x12_2 a1 x52_1 = some (r1, r2)) ∧ Aside0 (kq ≤ k1) ∧ Aside0 (Kd.R (Kd.int .u64) 75 w' w.heap.size (fun _ => True) v9 x9_2) ∧ Aside0 (Below w.heap.size w w'))
            case atStart => exact ⟨(x9_1), (x10_1), (0), (0), EB, EB, EB, H', ⟨Nat.le_refl _⟩, ⟨RU HO_9.out⟩, ⟨BU HB.out⟩⟩
            case round =>
             clear H'; (try clear c1); (try clear c2); (try clear p2); (try clear q2); (try clear hx2); (try clear c3); (try clear p3); (try clear c4); (try clear c5); (try clear c5b0); (try clear c6); (try clear c6b0); (try clear p6); (try clear c7); (try clear c7b0); (try clear c8); (try clear c8b0); (try clear c8b1); (try clear c9); (try clear c9b0); (try clear c10); (try clear c10b0); (try clear c10b1); (try clear c11); (try clear c15); (try clear c15b0); (try clear c16); (try clear c16b0); (try clear c18); (try clear c18b0); (try clear c18b1); (try clear c21); (try clear c21b0); (try clear c21b1); (try clear p22); (try clear q22); (try clear hx22); (try clear c24); (try clear c24b0); (try clear c24b1); (try clear c27); (try clear c27b0); (try clear c28); (try clear c28b0); (try clear c30); (try clear c30b0); (try clear c30b1); (try clear c32); (try clear c32b0); (try clear c32b1); (try clear c33); (try clear c33b0); (try clear hx226_0); (try clear hx227_0); (try clear p2); (try clear p22); (try clear p226); (try clear p227); (try clear p3); (try clear p6); (try clear q2); (try clear q22); (try clear q226); (try clear q227); obtain ⟨x9_2, x10_2, x11_2, x12_2, rfl, rfl, rfl, HA, HK2, HO_9, HB⟩ := hrel
             cases gk with
             | zero => exact absurd HA.out (by simp [bits_Unpack.l1])
             | succ k2 =>
              have H := HA.out; clear HA; simp only [bits_Unpack.l1] at H
              by_cases c34 : x12_2 = a2
              ·rw [if_pos c34] at H; have c34b0 : (x12_2 == a2) = true := beq_iff_eq.mpr c34; have c34b1 : (x12_2 != a2) = false := bne_eq_false_iff_eq.mpr c34; clear c34
               by_cases c35 : x9_2.length < 17592186044416
               ·rw [if_pos c35] at H; have LMc35 := Aside0.mk c35; clear c35
                obtain ⟨y223, hy223⟩ : ∃ y_ : List Int, y_ = (x9_2 ++ [x11_2]) := ⟨_, rfl⟩
                replace H : (bits_Unpack.l0 k2 l0 a2 y223 x10_2 a1 (wrap64 (x52_1 + 1))) = some (r1, r2) := HY hy223 H; have Ny223 := Aside0.mk hy223; clear hy223; have H' := Aside0.mk H; clear H
                go_wp2_with (first | ((with_reducible refine gate_builtin (b := .append) (xs := #[.tmp 57, .tmp 59]) rfl ?_); at_builtin; refine Kd.R_append (Kd.int .u64) (w0 := w) w.heap.size rfl (.tmp 57) (.tmp 59) 83 75 (.int .u64 0) 8 rfl Tryz.underlying83 info75 rfl (by decide) (by omega) u9 x9_2 x11_2 [.int .u64 x11_2] (fun _ => True) (fun _ => False) rfl rfl ?aP (fun _ hk => hk.elim) ?aF ?aO ?aB ?aS ?aL ?_; (case aP => exact rfl); (case aB => exact (BU HB.out)); (case aF => exact (fun _ _ => trivial)); (case aO => exact (RU HO_9.out)); (case aS => exact (below_size (BU HB.out))); (case aL => have := LMc35.out; omega); intro v224 w36 ho hb hg hat; rw [← Ny223.out] at ho; replace HB := Aside0.mk hb; have HO225 := Aside0.mk ho; clear HO_9; clear ho hb hg hat))
                repeat (go_step3; try go_wp2_with (first | ((with_reducible refine gate_builtin (b := .append) (xs := #[.tmp 57, .tmp 59]) rfl ?_); at_builtin; refine Kd.R_append (Kd.int .u64) (w0 := w) w.heap.size rfl (.tmp 57) (.tmp 59) 83 75 (.int .u64 0) 8 rfl Tryz.underlying83 info75 rfl (by decide) (by omega) u9 x9_2 x11_2 [.int .u64 x11_2] (fun _ => True) (fun _ => False) rfl rfl ?aP (fun _ hk => hk.elim) ?aF ?aO ?aB ?aS ?aL ?_; (case aP => exact rfl); (case aB => exact (BU HB.out)); (case aF => exact (fun _ _ => trivial)); (case aO => exact (RU HO_9.out)); (case aS => exact (below_size (BU HB.out))); (case aL => have := LMc35.out; omega); intro v224 w36 ho hb hg hat; rw [← Ny223.out] at ho; replace HB := Aside0.mk hb; have HO225 := Aside0.mk ho; clear HO_9; clear ho hb hg hat)))
                go_roundg k2
                case measure => have := HK1.out; have := HK2.out; omega
                case rel => exact ⟨(y223), (x10_2), (wrap64 (x52_1 + 1)), EB, EB, H', ⟨by have := HK1.out; have := HK2.out; omega⟩, ⟨RU HO225.out⟩, ⟨BU HB.out⟩⟩
               ·rw [if_neg c35] at H; exact absurd H (by simp)
              ·rw [if_neg c34] at H; have c34b0 : (x12_2 == a2) = false := beq_eq_false_iff_ne.mpr c34; have c34b1 : (x12_2 != a2) = true := bne_iff_ne.mpr c34
               obtain ⟨ji37, hji37⟩ : ∃ j_ : Int, (mn (wrap64 (8 - (Int.tmod x10_2 8))) (wrap64 (a2 - x12_2))) = j_ := ⟨_, rfl⟩
               replace H : (if 0 ≤ (wrap64 (Int.tdiv x10_2 8)) then (if (wrap64 (Int.tdiv x10_2 8)) < (l0.length : Int) then (if 0 ≤ (IntKind.u64.wrap (Int.tmod x10_2 8)) then (if 0 ≤ (IntKind.u64.wrap (ji37)) then (if 0 ≤ (IntKind.u64.wrap (x12_2)) then (bits_Unpack.l1 k2 l0 a2 x9_2 (wrap64 (x10_2 + (ji37))) (Go.bits .or .u64 x11_2 (shl .u64 (Go.bits .and .u64 (IntKind.u64.wrap (shr .u8 (rd l0 (wrap64 (Int.tdiv x10_2 8))) (IntKind.u64.wrap (Int.tmod x10_2 8)))) (IntKind.u64.wrap ((shl .u64 1 (IntKind.u64.wrap (ji37))) - 1))) (IntKind.u64.wrap (x12_2)))) (wrap64 (x12_2 + (ji37))) a1 x52_1) else (none)) else (none)) else (none)) else (none)) else (none)) = some (r1, r2) := by first | (rw [hji37] at H; exact H) | (simp only [hji37] at H ⊢; exact H)
               have hji37_ : (if (wrap64 (a2 - x12_2)) < (wrap64 (8 - (Int.tmod x10_2 8))) then (wrap64 (a2 - x12_2)) else (wrap64 (8 - (Int.tmod x10_2 8)))) = ji37 := hji37
               obtain ⟨ji38, hji38⟩ : ∃ j_ : Int, (wrap64 (Int.tdiv x10_2 8)) = j_ := ⟨_, rfl⟩
               replace H : (if 0 ≤ (ji38) then (if (ji38) < (l0.length : Int) then (if 0 ≤ (IntKind.u64.wrap (Int.tmod x10_2 8)) then (if 0 ≤ (IntKind.u64.wrap (ji37)) then (if 0 ≤ (IntKind.u64.wrap (x12_2)) then (bits_Unpack.l1 k2 l0 a2 x9_2 (wrap64 (x10_2 + (ji37))) (Go.bits .or .u64 x11_2 (shl .u64 (Go.bits .and .u64 (IntKind.u64.wrap (shr .u8 (rd l0 (ji38)) (IntKind.u64.wrap (Int.tmod x10_2 8)))) (IntKind.u64.wrap ((shl .u64 1 (IntKind.u64.wrap (ji37))) - 1))) (IntKind.u64.wrap (x12_2)))) (wrap64 (x12_2 + (ji37))) a1 x52_1) else (none)) else (none)) else (none)) else (none)) else (none)) = some (r1, r2) := by first | (rw [hji38] at H; exact H) | (simp only [hji38] at H ⊢; exact H)
               have hji38w : (IntKind.i64.wrap (Int.tdiv x10_2 8)) = ji38 := (i64_w _).trans hji38
               by_cases c39 : 0 ≤ (ji38)
               ·rw [if_pos c39] at H; have c39b0 := decide_eq_true c39; clear c39
                by_cases c40 : (ji38) < (l0.length : Int)
                ·rw [if_pos c40] at H; have c40b0 := decide_eq_true c40; clear c40
                 obtain ⟨ji41, hji41⟩ : ∃ j_ : Int, (IntKind.u64.wrap (Int.tmod x10_2 8)) = j_ := ⟨_, rfl⟩
                 replace H : (if 0 ≤ (ji41) then (if 0 ≤ (IntKind.u64.wrap (ji37)) then (if 0 ≤ (IntKind.u64.wrap (x12_2)) then (bits_Unpack.l1 k2 l0 a2 x9_2 (wrap64 (x10_2 + (ji37))) (Go.bits .or .u64 x11_2 (shl .u64 (Go.bits .and .u64 (IntKind.u64.wrap (shr .u8 (rd l0 (ji38)) (ji41))) (IntKind.u64.wrap ((shl .u64 1 (IntKind.u64.wrap (ji37))) - 1))) (IntKind.u64.wrap (x12_2)))) (wrap64 (x12_2 + (ji37))) a1 x52_1) else (none)) else (none)) else (none)) = some (r1, r2) := by first | (rw [hji41] at H; exact H) | (simp only [hji41] at H ⊢; exact H)
                 by_cases c42 : 0 ≤ (ji41)
                 ·rw [if_pos c42] at H; have c42b0 := eq_true c42; have c42b1 := decide_eq_true c42; clear c42
                  obtain ⟨ji43, hji43⟩ : ∃ j_ : Int, (shr .u8 (rd l0 (ji38)) (ji41)) = j_ := ⟨_, rfl⟩
                  replace H : (if 0 ≤ (IntKind.u64.wrap (ji37)) then (if 0 ≤ (IntKind.u64.wrap (x12_2)) then (bits_Unpack.l1 k2 l0 a2 x9_2 (wrap64 (x10_2 + (ji37))) (Go.bits .or .u64 x11_2 (shl .u64 (Go.bits .and .u64 (IntKind.u64.wrap (ji43)) (IntKind.u64.wrap ((shl .u64 1 (IntKind.u64.wrap (ji37))) - 1))) (IntKind.u64.wrap (x12_2)))) (wrap64 (x12_2 + (ji37))) a1 x52_1) else (none)) else (none)) = some (r1, r2) := by first | (rw [hji43] at H; exact H) | (simp only [hji43] at H ⊢; exact H)
                  have hji43_ : ((rd l0 (ji38)) / 2 ^ min (ji41).toNat 8) = ji43 := hji43; have hji43z : (ji41) ≤ 8 → ((rd l0 (ji38)) / 2 ^ (ji41).toNat) = ji43 := shr_small hji43
                  obtain ⟨ji44, hji44⟩ : ∃ j_ : Int, (IntKind.u64.wrap (ji37)) = j_ := ⟨_, rfl⟩
                  replace H : (if 0 ≤ (ji44) then (if 0 ≤ (IntKind.u64.wrap (x12_2)) then (bits_Unpack.l1 k2 l0 a2 x9_2 (wrap64 (x10_2 + (ji37))) (Go.bits .or .u64 x11_2 (shl .u64 (Go.bits .and .u64 (IntKind.u64.wrap (ji43)) (IntKind.u64.wrap ((shl .u64 1 (ji44)) - 1))) (IntKind.u64.wrap (x12_2)))) (wrap64 (x12_2 + (ji37))) a1 x52_1) else (none)) else (none)) = some (r1, r2) := by first | (rw [hji44] at H; exact H) | (simp only [hji44] at H ⊢; exact H)
                  by_cases c45 : 0 ≤ (ji44)
                  ·rw [if_pos c45] at H; have c45b0 := eq_true c45; have c45b1 := decide_eq_true c45; clear c45
                   obtain ⟨ji46, hji46⟩ : ∃ j_ : Int, (shl .u64 1 (ji44)) = j_ := ⟨_, rfl⟩
                   replace H : (if 0 ≤ (IntKind.u64.wrap (x12_2)) then (bits_Unpack.l1 k2 l0 a2 x9_2 (wrap64 (x10_2 + (ji37))) (Go.bits .or .u64 x11_2 (shl .u64 (Go.bits .and .u64 (IntKind.u64.wrap (ji43)) (IntKind.u64.wrap ((ji46) - 1))) (IntKind.u64.wrap (x12_2)))) (wrap64 (x12_2 + (ji37))) a1 x52_1) else (none)) = some (r1, r2) := by first | (rw [hji46] at H; exact H) | (simp only [hji46] at H ⊢; exact H)
                   have hji46_ : (IntKind.u64.wrap (1 * 2 ^ min (ji44).toNat 64)) = ji46 := hji46; have hji46z : (ji44) ≤ 64 → (IntKind.u64.wrap (1 * 2 ^ (ji44).toNat)) = ji46 := shl_small hji46
                   have hji46u : (IntKind.u64.wrap (2 ^ min (ji44).toNat 64)) = ji46 := by have h_ := hji46_; rw [Int.one_mul] at h_; exact h_
                   have hji46v : (ji44) ≤ 64 → (IntKind.u64.wrap (2 ^ (ji44).toNat)) = ji46 := fun hle_ => by have h_ := hji46z hle_; rw [Int.one_mul] at h_; exact h_
                   obtain ⟨ji47, hji47⟩ : ∃ j_ : Int, (IntKind.u64.wrap (x12_2)) = j_ := ⟨_, rfl⟩
                   replace H : (if 0 ≤ (ji47) then (bits_Unpack.l1 k2 l0 a2 x9_2 (wrap64 (x10_2 + (ji37))) (Go.bits .or .u64 x11_2 (shl .u64 (Go.bits .and .u64 (IntKind.u64.wrap (ji43)) (IntKind.u64.wrap ((ji46) - 1))) (ji47))) (wrap64 (x12_2 + (ji37))) a1 x52_1) else (none)) = some (r1, r2) := by first | (rw [hji47] at H; exact H) | (simp only [hji47] at H ⊢; exact H)
                   by_cases c48 : 0 ≤ (ji47)
                   ·rw [if_pos c48] at H; have c48b0 := eq_true c48; have c48b1 := decide_eq_true c48; clear c48
                    obtain ⟨ji49, hji49⟩ : ∃ j_ : Int, (shl .u64 (Go.bits .and .u64 (IntKind.u64.wrap (ji43)) (IntKind.u64.wrap ((ji46) - 1))) (ji47)) = j_ := ⟨_, rfl⟩
                    replace H : (bits_Unpack.l1 k2 l0 a2 x9_2 (wrap64 (x10_2 + (ji37))) (Go.bits .or .u64 x11_2 (ji49)) (wrap64 (x12_2 + (ji37))) a1 x52_1) = some (r1, r2) := by first | (rw [hji49] at H; exact H) | (simp only [hji49] at H ⊢; exact H)
                    have hji49_ : (IntKind.u64.wrap ((Go.bits .and .u64 (IntKind.u64.wrap (ji43)) (IntKind.u64.wrap ((ji46) - 1))) * 2 ^ min (ji47).toNat 64)) = ji49 := hji49; have hji49z : (ji47) ≤ 64 → (IntKind.u64.wrap ((Go.bits .and .u64 (IntKind.u64.wrap (ji43)) (IntKind.u64.wrap ((ji46) - 1))) * 2 ^ (ji47).toNat)) = ji49 := shl_small hji49; have H' := Aside0.mk H; clear H; have p226 : 0 ≤ ((ji38) : Int) := OD; have q226 : (ji38) < (l0.length : Int) := OD; obtain ⟨ad226, e226, hx226_0⟩ := Kd.at_int HR0.out (ji38) p226 q226
                    obtain rfl : ad227 = ad226 := (by injection e226)
                    replace hx226_0 := (HB.out.cell (World.block_lt_of_cell? w _ hx226_0)).trans hx226_0; replace p226 := eq_true p226; replace q226 := eq_true q226; go_wp2
                    repeat (go_step3; try go_wp2)
                    go_roundg k2
                    case measure => have := HK1.out; have := HK2.out; omega
                    case rel => exact ⟨(x9_2), (wrap64 (x10_2 + (ji37))), (Go.bits .or .u64 x11_2 (ji49)), (wrap64 (x12_2 + (ji37))), (by first | rfl | (simp; done) | (simp only [← hji37] <;> (first | rfl | simp)) | (simp [*]; done)), (by first | rfl | (simp; done) | (simp only [← hji49] <;> (first | rfl | simp)) | (simp [*]; done)), (by first | rfl | (simp; done) | (simp only [← hji37] <;> (first | rfl | simp)) | (simp [*]; done)), H', ⟨by have := HK1.out; have := HK2.out; omega⟩, ⟨RU HO_9.out⟩, ⟨BU HB.out⟩⟩
                   ·rw [if_neg c48] at H; exact absurd H (by simp)
                  ·rw [if_neg c45] at H; exact absurd H (by simp)
                 ·rw [if_neg c42] at H; exact absurd H (by simp)
                ·rw [if_neg c40] at H; exact absurd H (by simp)
               ·rw [if_neg c39] at H; exact absurd H (by simp)
           ·rw [if_neg c33] at H; have c33b0 := decide_eq_false c33; clear c33; simp only [Option.some.injEq, Prod.mk.injEq] at H; obtain ⟨rfl, rfl⟩ := H; go_wp2
            repeat (go_step3; try go_wp2)
            try rw [Exit.noGoto_ret]
            go_ret2
            exact ⟨_, by first | rfl | (simp [errW_none, errW_some] <;> rfl) | (simp only [← hji26, ← hji29, ← hji31]; first | rfl | (simp [errW_none, errW_some] <;> rfl)) | (simp [*, errW_none, errW_some] <;> rfl), RU HO_9.out, BU HB.out⟩
        ·rw [if_neg c32] at H; have c32b0 : ((ji31) == 0) = false := beq_eq_false_iff_ne.mpr c32; have c32b1 : ((ji31) != 0) = true := bne_iff_ne.mpr c32; simp only [Option.some.injEq, Prod.mk.injEq] at H; obtain ⟨rfl, rfl⟩ := H; go_enter Tryz.func40, Tryz.ntmps40
         go_wp2_with (first | (go_at_call 68; (with_reducible refine (bits_Size.calls a1 a2 t222 _ A4.out).mono ?_); rintro e w' ⟨rfl, ⟨nd, rfl⟩⟩; have p227 : 0 ≤ ((ji26) : Int) := OD; have q227 : (ji26) < (l0.length : Int) := OD; obtain ⟨ad227, e227, hx227_0⟩ := Kd.at_int HR0.out (ji26) p227 q227; cases e227; replace p227 := eq_true p227; replace q227 := eq_true q227))
         repeat (go_step3; try go_wp2_with (first | (go_at_call 68; (with_reducible refine (bits_Size.calls a1 a2 t222 _ A4.out).mono ?_); rintro e w' ⟨rfl, ⟨nd, rfl⟩⟩; have p227 : 0 ≤ ((ji26) : Int) := OD; have q227 : (ji26) < (l0.length : Int) := OD; obtain ⟨ad227, e227, hx227_0⟩ := Kd.at_int HR0.out (ji26) p227 q227; cases e227; replace p227 := eq_true p227; replace q227 := eq_true q227)))
         try rw [Exit.noGoto_ret]
         go_ret2
         exact ⟨_, by first | rfl | (simp [errW_none, errW_some] <;> rfl) | (simp only [← hji26, ← hji29, ← hji31]; first | rfl | (simp [errW_none, errW_some] <;> rfl)) | (simp [*, errW_none, errW_some] <;> rfl), by first | exact Kd.R_nil _ _ _ _ _ | exact Kd.N_nil _ _ _ _ _ | exact Kd.V_nil _ _ _ _ _ | exact Kd.Q_nil _ _ _ _ _ | exact Kd.S_nil _ _ _ _ _, BU HB.out⟩
       ·rw [if_neg c30] at H; exact absurd H (by simp)
      ·rw [if_neg c28] at H; exact absurd H (by simp)
     ·rw [if_neg c27] at H; exact absurd H (by simp)

end Go.Proofs.YtehbkhddbdgbcaaGreatDoor.PChunkBack
