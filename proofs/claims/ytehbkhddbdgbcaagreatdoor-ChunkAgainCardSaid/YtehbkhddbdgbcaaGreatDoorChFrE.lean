/- chunk.front where it fails: why. -/
import Derived.Test.YtehbkhddbdgbcaaGreatDoorChFront
namespace Go.Proofs.YtehbkhddbdgbcaaGreatDoor.Ch
open Go.RowKit Go.Proofs.YtehbkhddbdgbcaaGreatDoorW.PrintWords Go.Proofs.YtehbkhddbdgbcaaGreatDoorW.PrintLast Go.Proofs.YtehbkhddbdgbcaaGreatDoorW.PrintMore Go.Proofs.YtehbkhddbdgbcaaGreatDoor.PChunkBack Go.Proofs.YtehbkhddbdgbcaaGreatDoor.Bits
attribute [local go_sem] max2_int min2_int max_two min_two max_three min_three max_four min_four
set_option linter.unusedVariables false
set_option linter.unusedSimpArgs false
abbrev FrontErr (b : List Int) (n : Nat) (er : Int) : Prop := ∀ (w0 w : World) (g : Nat), IsS73 w0 w g b 0 0 0 → Below w0.heap.size w0 w →
  Calls Tryz.prog 19 #[.pointer (some ⟨g, 0, none⟩), .int .i64 n] w fun e w' => ∃ v y, e = .returned (.tuple #[v, .int .i64 y, .int .i64 er]) ∧ Below w0.heap.size w0 w'
theorem unp_len2 (l : List Int) (n : Nat) : (unp l (n : Int).toNat).length = n := by simp [unp]
theorem fix_end (k : Nat) (b : List Int) (hl : b.length ≤ 140737488355328) : num_Reader_Fix.f k b b.length 0 0 1 = some (0, (b.length : Int), 2, (b.length : Int)) := by
  unfold num_Reader_Fix.f num_Reader_Take.f
  rw [if_pos rfl, if_pos ⟨by omega, by omega, by omega⟩, if_neg (by simp), if_neg (by omega), if_pos (by omega)]
  rfl
theorem fix_err (k : Nat) (b : List Int) (p : Nat) (e o : Int) (hp : p ≤ b.length) (he : e ≠ 0) (hl : b.length ≤ 140737488355328) : num_Reader_Fix.f k b p e o 1 = some (0, (p : Int), e, o) := by
  unfold num_Reader_Fix.f num_Reader_Take.f
  rw [if_pos rfl, if_pos ⟨by omega, by omega, by omega⟩, if_pos he]
  rfl
theorem take_short (b : List Int) (m : Nat) (h1 : 1 ≤ b.length) (hm : b.length - 1 < m) (hl : b.length ≤ 140737488355328) : num_Reader_Take.f b 1 0 0 m = some ([], 1, 2, 1) := by
  unfold num_Reader_Take.f
  rw [if_pos ⟨by omega, by omega, by omega⟩, if_neg (by simp), if_neg (by omega), if_pos (by omega)]
set_option maxRecDepth 100000 in
set_option maxHeartbeats 8000000 in
theorem front_nil (n : Nat) (hn : n ≤ 65536) : FrontErr [] n 2 := by
  intro w0 w g hI hB
  have hN := Aside0.mk (New_some n w hn)
  have hlt := hI.lt
  have I0 := Aside0.mk hI
  have B0 := Aside0.mk hB
  clear hI hB
  have F1 := Aside0.mk (fix_end 0 [] (by decide))
  have F2 := Aside0.mk (fix_err 0 [] 0 2 0 (Nat.le_refl _) (by decide) (by decide))
  generalize hbb : ([] : List Int) = bb at *
  have HL : (bb.length : Int) = 0 := by rw [← hbb]; rfl
  rw [HL] at F1
  clear hbb
  go_enter Tryz.func19, Tryz.ntmps19
  go_wp2_with (first
    | (go_at_call 32; (with_reducible refine hN.out.mono ?_); rintro e w1 ⟨gs, bs, rfl, hS, hg, hb, hb1⟩; have S1 := Aside0.mk hS; have I1 := Aside0.mk (I0.out.below hb1); have B1 := Aside0.mk (below_step B0.out hb1); have ne1 : gs ≠ g := (by omega); have ne2 : bs ≠ g := (by omega); clear hS hb1 I0 B0 hN hg hb)
    | (go_at_call 33; (with_reducible refine (num_Reader_Fix.calls 0 g bb 0 0 0 1 _ _ _ _ w0 _ I1.out B1.out F1.out).mono ?_); rintro e w2 ⟨rfl, hI2, hB2, hK2⟩; have S2 := Aside0.mk (IsSet.keepR S1.out hK2 ne1 ne2); have I2 := Aside0.mk hI2; have B2 := Aside0.mk hB2; clear hI2 hB2 hK2 I1 B1 S1)
    | (go_at_call 33; (with_reducible refine (num_Reader_Fix.calls 0 g bb 0 2 0 1 _ _ _ _ w0 _ I2.out B2.out F2.out).mono ?_); rintro e w3 ⟨rfl, hI3, hB3, hK3⟩; have S3 := Aside0.mk (IsSet.keepR S2.out hK3 ne1 ne2); have I3 := Aside0.mk hI3; have B3 := Aside0.mk hB3; clear hI3 hB3 hK3 I2 B2 S2)
    | (go_at_call 35; (with_reducible refine (num_Reader_Err.calls g bb 0 2 0 _ _ _ _ _ w0 _ I3.out B3.out rfl).mono ?_); rintro e w4 ⟨rfl, hI4, hB4, hK4⟩; have S4 := Aside0.mk (IsSet.keepR S3.out hK4 ne1 ne2); have I4 := Aside0.mk hI4; have B4 := Aside0.mk hB4; clear hI4 hB4 hK4 I3 B3 S3))
  refine bodyPost_ret (results_tmp3 rfl _ _ _) rfl ?_
  exact ⟨_, _, rfl, B4.out⟩
set_option maxRecDepth 100000 in
set_option maxHeartbeats 8000000 in
theorem front_zero (n : Nat) (hn : n ≤ 65536) : FrontErr [0] n 2 := by
  intro w0 w g hI hB
  have hN := Aside0.mk (New_some n w hn)
  have hlt := hI.lt
  have I0 := Aside0.mk hI
  have B0 := Aside0.mk hB
  clear hI hB
  have F1 := Aside0.mk (fix_at 0 [0] 0 0 rfl ⟨by omega, by omega⟩ (by decide))
  have F2 := Aside0.mk (fix_end 0 [0] (by decide))
  generalize hbb : ([0] : List Int) = bb at *
  have HL : (bb.length : Int) = 1 := by rw [← hbb]; rfl
  rw [HL] at F2
  clear hbb
  go_enter Tryz.func19, Tryz.ntmps19
  go_wp2_with (first
    | (go_at_call 32; (with_reducible refine hN.out.mono ?_); rintro e w1 ⟨gs, bs, rfl, hS, hg, hb, hb1⟩; have S1 := Aside0.mk hS; have I1 := Aside0.mk (I0.out.below hb1); have B1 := Aside0.mk (below_step B0.out hb1); have ne1 : gs ≠ g := (by omega); have ne2 : bs ≠ g := (by omega); clear hS hb1 I0 B0 hN hg hb)
    | (go_at_call 33; (with_reducible refine (num_Reader_Fix.calls 0 g bb 0 0 0 1 _ _ _ _ w0 _ I1.out B1.out F1.out).mono ?_); rintro e w2 ⟨rfl, hI2, hB2, hK2⟩; have S2 := Aside0.mk (IsSet.keepR S1.out hK2 ne1 ne2); have I2 := Aside0.mk hI2; have B2 := Aside0.mk hB2; clear hI2 hB2 hK2 I1 B1 S1)
    | (go_at_call 33; (with_reducible refine (num_Reader_Fix.calls 0 g bb 1 0 0 1 _ _ _ _ w0 _ I2.out B2.out F2.out).mono ?_); rintro e w3 ⟨rfl, hI3, hB3, hK3⟩; have S3 := Aside0.mk (IsSet.keepR S2.out hK3 ne1 ne2); have I3 := Aside0.mk hI3; have B3 := Aside0.mk hB3; clear hI3 hB3 hK3 I2 B2 S2)
    | (go_at_call 35; (with_reducible refine (num_Reader_Err.calls g bb 1 2 1 _ _ _ _ _ w0 _ I3.out B3.out rfl).mono ?_); rintro e w4 ⟨rfl, hI4, hB4, hK4⟩; have S4 := Aside0.mk (IsSet.keepR S3.out hK4 ne1 ne2); have I4 := Aside0.mk hI4; have B4 := Aside0.mk hB4; clear hI4 hB4 hK4 I3 B3 S3))
  refine bodyPost_ret (results_tmp3 rfl _ _ _) rfl ?_
  exact ⟨_, _, rfl, B4.out⟩
set_option maxRecDepth 100000 in
set_option maxHeartbeats 8000000 in
theorem front_else (n : Nat) (hn : n ≤ 65536) (f : Int) (t : List Int) (hf : 0 ≤ f ∧ f < 256) (h0 : f ≠ 0) (h1 : f ≠ 1) (hl : t.length ≤ 1000000000) : FrontErr (f :: t) n 4 := by
  intro w0 w g hI hB
  have hN := Aside0.mk (New_some n w hn)
  have hlt := hI.lt
  have I0 := Aside0.mk hI
  have B0 := Aside0.mk hB
  clear hI hB
  have F1 := Aside0.mk (fix_at 0 (f :: t) 0 f rfl hf (by simp; omega))
  have c0 : (f == 0) = false := beq_eq_false_iff_ne.2 h0
  have c1 : (f == 1) = false := beq_eq_false_iff_ne.2 h1
  clear hl
  generalize (f :: t) = bb at *
  go_enter Tryz.func19, Tryz.ntmps19
  go_wp2_with (first
    | (go_at_call 32; (with_reducible refine hN.out.mono ?_); rintro e w1 ⟨gs, bs, rfl, hS, hg, hb, hb1⟩; have S1 := Aside0.mk hS; have I1 := Aside0.mk (I0.out.below hb1); have B1 := Aside0.mk (below_step B0.out hb1); have ne1 : gs ≠ g := (by omega); have ne2 : bs ≠ g := (by omega); clear hS hb1 I0 B0 hN hg hb)
    | (go_at_call 33; (with_reducible refine (num_Reader_Fix.calls 0 g bb 0 0 0 1 _ _ _ _ w0 _ I1.out B1.out F1.out).mono ?_); rintro e w2 ⟨rfl, hI2, hB2, hK2⟩; have S2 := Aside0.mk (IsSet.keepR S1.out hK2 ne1 ne2); have I2 := Aside0.mk hI2; have B2 := Aside0.mk hB2; clear hI2 hB2 hK2 I1 B1 S1))
  refine bodyPost_ret (results_tmp3 rfl _ _ _) rfl ?_
  exact ⟨_, _, rfl, B2.out⟩
set_option maxRecDepth 100000 in
set_option maxHeartbeats 8000000 in
theorem front_short (n : Nat) (hn : n ≤ 65536) (t : List Int) (ht : t.length < (n + 7) / 8) (hl : t.length ≤ 1000000000) : FrontErr (1 :: t) n 2 := by
  intro w0 w g hI hB
  have hN := Aside0.mk (New_some n w hn)
  have hlt := hI.lt
  have I0 := Aside0.mk hI
  have B0 := Aside0.mk hB
  clear hI hB
  have F1 := Aside0.mk (fix_at 0 (1 :: t) 0 1 rfl ⟨by omega, by omega⟩ (by simp; omega))
  have ft := take_short (1 :: t) ((n + 7) / 8) (by simp) (by simp; omega) (by simp; omega)
  rw [show (((n + 7) / 8 : Nat) : Int) = ((n : Int) + 7) / 8 from by omega] at ft
  have FT := Aside0.mk ft
  have hq : Int.tdiv ((n : Int) + 7) 8 = (((n + 7) / 8 : Nat) : Int) := by rw [Int.tdiv_eq_ediv_of_nonneg (by omega)]; omega
  have hre : ¬ readErr [] n = 0 := by unfold readErr; rw [if_neg (by omega), if_pos (by simp; omega)]; decide
  have hr2 : readErr [] n = 2 := by unfold readErr; rw [if_neg (by omega), if_pos (by simp; omega)]
  have HPB : Aside0 (∀ v ∈ ([] : List Int), 0 ≤ v ∧ v < 256) := ⟨fun v hv => by cases hv⟩
  have HQ := Aside0.mk hq
  have HRE := Aside0.mk hre
  clear hl hq hre ht ft
  generalize hpp : ([] : List Int) = pp at *
  generalize (1 :: t) = bb at *
  have HR2 := Aside0.mk hr2
  clear hr2 hpp
  go_enter Tryz.func19, Tryz.ntmps19
  go_wp2_with (first
    | (go_at_call 32; (with_reducible refine hN.out.mono ?_); rintro e w1 ⟨gs, bs, rfl, hS, hg, hb, hb1⟩; have S1 := Aside0.mk hS; have I1 := Aside0.mk (I0.out.below hb1); have B1 := Aside0.mk (below_step B0.out hb1); have ne1 : gs ≠ g := (by omega); have ne2 : bs ≠ g := (by omega); clear hS hb1 I0 B0 hN hg hb)
    | (go_at_call 33; (with_reducible refine (num_Reader_Fix.calls 0 g bb 0 0 0 1 _ _ _ _ w0 _ I1.out B1.out F1.out).mono ?_); rintro e w2 ⟨rfl, hI2, hB2, hK2⟩; have S2 := Aside0.mk (IsSet.keepR S1.out hK2 ne1 ne2); have I2 := Aside0.mk hI2; have B2 := Aside0.mk hB2; clear hI2 hB2 hK2 I1 B1 S1)
    | (go_at_call 22; (with_reducible refine (num_Reader_Take.calls g bb 1 0 0 _ pp _ _ _ w0 _ I2.out B2.out FT.out).mono ?_); rintro e w3 ⟨v, rfl, hR, hI3, hB3, hK3⟩; obtain ⟨A, c, rfl⟩ := Kd.R_slice hR; have C3 := Aside0.mk (Kd.R_reads' hR).2.2; have I3 := Aside0.mk hI3; have B3 := Aside0.mk hB3; clear hR hI3 hB3 hK3 I2 B2)
    | (go_at_call 34; (with_reducible refine (Read_any _ A pp c n C3.out HPB.out).mono ?_); rintro e w4 hP; unfold ReadPost at hP; rw [if_neg HRE.out] at hP; rw [HR2.out] at hP; obtain ⟨rfl, hB4⟩ := hP; have I4 := Aside0.mk (I3.out.below hB4); have B4 := Aside0.mk (below_step B3.out hB4); clear hB4 C3 I3 B3)
    | (go_at_call 35; (with_reducible refine (num_Reader_Err.calls g bb 1 2 1 _ _ _ _ _ w0 _ I4.out B4.out rfl).mono ?_); rintro e w5 ⟨rfl, hI5, hB5, hK5⟩; have I5 := Aside0.mk hI5; have B5 := Aside0.mk hB5; clear hI5 hB5 hK5 I4 B4))
  refine bodyPost_ret (results_tmp3 rfl _ _ _) rfl ?_
  exact ⟨_, _, rfl, B5.out⟩
set_option maxRecDepth 100000 in
set_option maxHeartbeats 8000000 in
theorem front_bad (n : Nat) (hn : n ≤ 65536) (t : List Int) (ht : (n + 7) / 8 ≤ t.length) (hw : ∀ v ∈ t, 0 ≤ v ∧ v < 256) (hl : t.length ≤ 1000000000) (re : Int) (h0 : re ≠ 0) (hre : readErr (t.take ((n + 7) / 8)) n = re) : FrontErr (1 :: t) n re := by
  intro w0 w g hI hB
  have hN := Aside0.mk (New_some n w hn)
  have hlt := hI.lt
  have I0 := Aside0.mk hI
  have B0 := Aside0.mk hB
  clear hI hB
  have F1 := Aside0.mk (fix_at 0 (1 :: t) 0 1 rfl ⟨by omega, by omega⟩ (by simp; omega))
  have ft := take_at (1 :: t) 1 ((n + 7) / 8) (by simp; omega) (by simp; omega)
  rw [show ((1 : Int) :: t).drop 1 = t from rfl] at ft
  have FT := Aside0.mk ft
  have hq : Int.tdiv ((n : Int) + 7) 8 = (((n + 7) / 8 : Nat) : Int) := by rw [Int.tdiv_eq_ediv_of_nonneg (by omega)]; omega
  have HPB : Aside0 (∀ v ∈ t.take ((n + 7) / 8), 0 ≤ v ∧ v < 256) := ⟨fun v hv => hw v (List.mem_of_mem_take hv)⟩
  have HQ := Aside0.mk hq
  have c4 : (re == 0) = false := beq_eq_false_iff_ne.2 h0
  have c5 : (re != 0) = true := bne_iff_ne.2 h0
  have HR2 := Aside0.mk hre
  have HRE : Aside0 (¬ readErr (t.take ((n + 7) / 8)) n = 0) := ⟨by rw [hre]; exact h0⟩
  clear hl hq hre ht ft hw h0
  generalize t.take ((n + 7) / 8) = pp at *
  generalize (1 :: t) = bb at *
  go_enter Tryz.func19, Tryz.ntmps19
  go_wp2_with (first
    | (go_at_call 32; (with_reducible refine hN.out.mono ?_); rintro e w1 ⟨gs, bs, rfl, hS, hg, hb, hb1⟩; have S1 := Aside0.mk hS; have I1 := Aside0.mk (I0.out.below hb1); have B1 := Aside0.mk (below_step B0.out hb1); have ne1 : gs ≠ g := (by omega); have ne2 : bs ≠ g := (by omega); clear hS hb1 I0 B0 hN hg hb)
    | (go_at_call 33; (with_reducible refine (num_Reader_Fix.calls 0 g bb 0 0 0 1 _ _ _ _ w0 _ I1.out B1.out F1.out).mono ?_); rintro e w2 ⟨rfl, hI2, hB2, hK2⟩; have S2 := Aside0.mk (IsSet.keepR S1.out hK2 ne1 ne2); have I2 := Aside0.mk hI2; have B2 := Aside0.mk hB2; clear hI2 hB2 hK2 I1 B1 S1)
    | (go_at_call 22; (with_reducible refine (num_Reader_Take.calls g bb 1 0 0 _ pp _ _ _ w0 _ I2.out B2.out FT.out).mono ?_); rintro e w3 ⟨v, rfl, hR, hI3, hB3, hK3⟩; obtain ⟨A, c, rfl⟩ := Kd.R_slice hR; have C3 := Aside0.mk (Kd.R_reads' hR).2.2; have I3 := Aside0.mk hI3; have B3 := Aside0.mk hB3; clear hR hI3 hB3 hK3 I2 B2)
    | (go_at_call 34; (with_reducible refine (Read_any _ A pp c n C3.out HPB.out).mono ?_); rintro e w4 hP; unfold ReadPost at hP; rw [if_neg HRE.out] at hP; rw [HR2.out] at hP; obtain ⟨rfl, hB4⟩ := hP; have I4 := Aside0.mk (I3.out.below hB4); have B4 := Aside0.mk (below_step B3.out hB4); clear hB4 C3 I3 B3)
    | (go_at_call 35; (with_reducible refine (num_Reader_Err.calls g bb ((1 + (n + 7) / 8 : Nat) : Int) 0 0 _ _ _ _ _ w0 _ I4.out B4.out rfl).mono ?_); rintro e w5 ⟨rfl, hI5, hB5, hK5⟩; have I5 := Aside0.mk hI5; have B5 := Aside0.mk hB5; clear hI5 hB5 hK5 I4 B4))
  refine bodyPost_ret (results_tmp3 rfl _ _ _) rfl ?_
  exact ⟨_, _, rfl, B5.out⟩
set_option maxRecDepth 100000 in
set_option maxHeartbeats 8000000 in
theorem front_none (n : Nat) (hn : n ≤ 65536) (t : List Int) (ht : (n + 7) / 8 ≤ t.length) (hw : ∀ v ∈ t, 0 ≤ v ∧ v < 256) (hl : t.length ≤ 1000000000) (hre : readErr (t.take ((n + 7) / 8)) n = 0) (hc : cnt (unp (t.take ((n + 7) / 8)) n) n = 0) : FrontErr (1 :: t) n 4 := by
  intro w0 w g hI hB
  have hN := Aside0.mk (New_some n w hn)
  have hlt := hI.lt
  have I0 := Aside0.mk hI
  have B0 := Aside0.mk hB
  clear hI hB
  have F1 := Aside0.mk (fix_at 0 (1 :: t) 0 1 rfl ⟨by omega, by omega⟩ (by simp; omega))
  have ft := take_at (1 :: t) 1 ((n + 7) / 8) (by simp; omega) (by simp; omega)
  rw [show ((1 : Int) :: t).drop 1 = t from rfl] at ft
  have FT := Aside0.mk ft
  have hq : Int.tdiv ((n : Int) + 7) 8 = (((n + 7) / 8 : Nat) : Int) := by rw [Int.tdiv_eq_ediv_of_nonneg (by omega)]; omega
  have HPB : Aside0 (∀ v ∈ t.take ((n + 7) / 8), 0 ≤ v ∧ v < 256) := ⟨fun v hv => hw v (List.mem_of_mem_take hv)⟩
  have HQ := Aside0.mk hq
  have HRE := Aside0.mk hre
  have HC := Aside0.mk hc
  clear hl hq hre ht ft hw hc
  generalize t.take ((n + 7) / 8) = pp at *
  generalize (1 :: t) = bb at *
  go_enter Tryz.func19, Tryz.ntmps19
  go_wp2_with (first
    | (go_at_call 32; (with_reducible refine hN.out.mono ?_); rintro e w1 ⟨gs, bs, rfl, hS, hg, hb, hb1⟩; have S1 := Aside0.mk hS; have I1 := Aside0.mk (I0.out.below hb1); have B1 := Aside0.mk (below_step B0.out hb1); have ne1 : gs ≠ g := (by omega); have ne2 : bs ≠ g := (by omega); clear hS hb1 I0 B0 hN hg hb)
    | (go_at_call 33; (with_reducible refine (num_Reader_Fix.calls 0 g bb 0 0 0 1 _ _ _ _ w0 _ I1.out B1.out F1.out).mono ?_); rintro e w2 ⟨rfl, hI2, hB2, hK2⟩; have S2 := Aside0.mk (IsSet.keepR S1.out hK2 ne1 ne2); have I2 := Aside0.mk hI2; have B2 := Aside0.mk hB2; clear hI2 hB2 hK2 I1 B1 S1)
    | (go_at_call 22; (with_reducible refine (num_Reader_Take.calls g bb 1 0 0 _ pp _ _ _ w0 _ I2.out B2.out FT.out).mono ?_); rintro e w3 ⟨v, rfl, hR, hI3, hB3, hK3⟩; obtain ⟨A, c, rfl⟩ := Kd.R_slice hR; have C3 := Aside0.mk (Kd.R_reads' hR).2.2; have I3 := Aside0.mk hI3; have B3 := Aside0.mk hB3; clear hR hI3 hB3 hK3 I2 B2)
    | (go_at_call 34; (with_reducible refine (Read_any _ A pp c n C3.out HPB.out).mono ?_); rintro e w4 hP; unfold ReadPost at hP; rw [if_pos HRE.out] at hP; obtain ⟨gr, br, rfl, hS4, -, -, -, hg4, hb4, hB4⟩ := hP; have l3 := I3.out.lt; have nr1 : gr ≠ g := (by omega); have nr2 : br ≠ g := (by omega); have S4 := Aside0.mk hS4; have I4 := Aside0.mk (I3.out.below hB4); have B4 := Aside0.mk (below_step B3.out hB4); clear hS4 hg4 hb4 hB4 C3 I3 B3 l3)
    | (go_at_call 35; (with_reducible refine (num_Reader_Err.calls g bb ((1 + (n + 7) / 8 : Nat) : Int) 0 0 _ _ _ _ _ w0 _ I4.out B4.out rfl).mono ?_); rintro e w5 ⟨rfl, hI5, hB5, hK5⟩; have S5 := Aside0.mk (IsSet.keepR S4.out hK5 nr1 nr2); have I5 := Aside0.mk hI5; have B5 := Aside0.mk hB5; clear hI5 hB5 hK5 I4 B4 S4)
    | (go_at_call 20; (with_reducible refine (Count_any _ _ _ _ S5.out).mono ?_); rintro e w6 ⟨he, hd⟩; rw [show (unp pp (n : Int).toNat).length = n from unp_len2 _ _, show unp pp (n : Int).toNat = unp pp n from rfl, HC.out] at he; subst he; have I6 := Aside0.mk (I5.out.below hd.below); have B6 := Aside0.mk (below_step B5.out hd.below); clear hd I5 B5))
  refine bodyPost_ret (results_tmp3 rfl _ _ _) rfl ?_
  exact ⟨_, _, rfl, B6.out⟩
set_option maxRecDepth 100000 in
set_option maxHeartbeats 8000000 in
theorem front_end (n : Nat) (hn : n ≤ 65536) (t : List Int) (ht : (n + 7) / 8 = t.length) (hw : ∀ v ∈ t, 0 ≤ v ∧ v < 256) (hl : t.length ≤ 1000000000) (hre : readErr (t.take ((n + 7) / 8)) n = 0) (hc : 0 < cnt (unp (t.take ((n + 7) / 8)) n) n) : FrontErr (1 :: t) n 2 := by
  intro w0 w g hI hB
  have hN := Aside0.mk (New_some n w hn)
  have hlt := hI.lt
  have I0 := Aside0.mk hI
  have B0 := Aside0.mk hB
  clear hI hB
  have F1 := Aside0.mk (fix_at 0 (1 :: t) 0 1 rfl ⟨by omega, by omega⟩ (by simp; omega))
  have ft := take_at (1 :: t) 1 ((n + 7) / 8) (by simp; omega) (by simp; omega)
  rw [show ((1 : Int) :: t).drop 1 = t from rfl] at ft
  have FT := Aside0.mk ft
  have hq : Int.tdiv ((n : Int) + 7) 8 = (((n + 7) / 8 : Nat) : Int) := by rw [Int.tdiv_eq_ediv_of_nonneg (by omega)]; omega
  have HPB : Aside0 (∀ v ∈ t.take ((n + 7) / 8), 0 ≤ v ∧ v < 256) := ⟨fun v hv => hw v (List.mem_of_mem_take hv)⟩
  have HQ := Aside0.mk hq
  have HRE := Aside0.mk hre
  have HC := Aside0.mk hc
  have f3 := fix_end 0 (1 :: t) (by simp; omega)
  rw [show (1 :: t).length = 1 + (n + 7) / 8 from by simp; omega] at f3
  have F3 := Aside0.mk f3
  have hc0 : ¬ ((cnt (unp (t.take ((n + 7) / 8)) n) n : Int) = 0) := by omega
  have c5 : (((cnt (unp (t.take ((n + 7) / 8)) n) n : Nat) : Int) == 0) = false := beq_eq_false_iff_ne.2 hc0
  clear hl hq hre ht ft hw hc f3
  generalize t.take ((n + 7) / 8) = pp at *
  generalize (1 :: t) = bb at *
  go_enter Tryz.func19, Tryz.ntmps19
  go_wp2_with (first
    | (go_at_call 32; (with_reducible refine hN.out.mono ?_); rintro e w1 ⟨gs, bs, rfl, hS, hg, hb, hb1⟩; have S1 := Aside0.mk hS; have I1 := Aside0.mk (I0.out.below hb1); have B1 := Aside0.mk (below_step B0.out hb1); have ne1 : gs ≠ g := (by omega); have ne2 : bs ≠ g := (by omega); clear hS hb1 I0 B0 hN hg hb)
    | (go_at_call 33; (with_reducible refine (num_Reader_Fix.calls 0 g bb 0 0 0 1 _ _ _ _ w0 _ I1.out B1.out F1.out).mono ?_); rintro e w2 ⟨rfl, hI2, hB2, hK2⟩; have S2 := Aside0.mk (IsSet.keepR S1.out hK2 ne1 ne2); have I2 := Aside0.mk hI2; have B2 := Aside0.mk hB2; clear hI2 hB2 hK2 I1 B1 S1)
    | (go_at_call 22; (with_reducible refine (num_Reader_Take.calls g bb 1 0 0 _ pp _ _ _ w0 _ I2.out B2.out FT.out).mono ?_); rintro e w3 ⟨v, rfl, hR, hI3, hB3, hK3⟩; obtain ⟨A, c, rfl⟩ := Kd.R_slice hR; have C3 := Aside0.mk (Kd.R_reads' hR).2.2; have I3 := Aside0.mk hI3; have B3 := Aside0.mk hB3; clear hR hI3 hB3 hK3 I2 B2)
    | (go_at_call 34; (with_reducible refine (Read_any _ A pp c n C3.out HPB.out).mono ?_); rintro e w4 hP; unfold ReadPost at hP; rw [if_pos HRE.out] at hP; obtain ⟨gr, br, rfl, hS4, -, -, -, hg4, hb4, hB4⟩ := hP; have l3 := I3.out.lt; have nr1 : gr ≠ g := (by omega); have nr2 : br ≠ g := (by omega); have S4 := Aside0.mk hS4; have I4 := Aside0.mk (I3.out.below hB4); have B4 := Aside0.mk (below_step B3.out hB4); clear hS4 hg4 hb4 hB4 C3 I3 B3 l3)
    | (go_at_call 35; (with_reducible refine (num_Reader_Err.calls g bb ((1 + (n + 7) / 8 : Nat) : Int) 0 0 _ _ _ _ _ w0 _ I4.out B4.out rfl).mono ?_); rintro e w5 ⟨rfl, hI5, hB5, hK5⟩; have S5 := Aside0.mk (IsSet.keepR S4.out hK5 nr1 nr2); have I5 := Aside0.mk hI5; have B5 := Aside0.mk hB5; clear hI5 hB5 hK5 I4 B4 S4)
    | (go_at_call 20; (with_reducible refine (Count_any _ _ _ _ S5.out).mono ?_); rintro e w6 ⟨he, hd⟩; rw [show (unp pp (n : Int).toNat).length = n from unp_len2 _ _, show unp pp (n : Int).toNat = unp pp n from rfl] at he; subst he; have S6 := Aside0.mk (IsSet.below S5.out hd.below); have I6 := Aside0.mk (I5.out.below hd.below); have B6 := Aside0.mk (below_step B5.out hd.below); clear hd I5 B5)
    | (go_at_call 33; (with_reducible refine (num_Reader_Fix.calls 0 g bb _ 0 0 1 _ _ _ _ w0 _ I6.out B6.out F3.out).mono ?_); rintro e w7 ⟨rfl, hI7, hB7, hK7⟩; have I7 := Aside0.mk hI7; have B7 := Aside0.mk hB7; clear hI7 hB7 hK7 I6 B6)
    | (go_at_call 35; (with_reducible refine (num_Reader_Err.calls g bb _ 2 _ _ _ _ _ _ w0 _ I7.out B7.out rfl).mono ?_); rintro e w8 ⟨rfl, hI8, hB8, hK8⟩; have B8 := Aside0.mk hB8; clear hI8 hB8 hK8))
  refine bodyPost_ret (results_tmp3 rfl _ _ _) rfl ?_
  exact ⟨_, _, rfl, B8.out⟩
end Go.Proofs.YtehbkhddbdgbcaaGreatDoor.Ch
