/- estreatlaw07.BitmapBack hands back true, for every input. -/
import Derived.Test.YtbjnfephigcdkaaSetRef
import Derived.Test.YtbjnfephigcdkaaSetRank
namespace Go.Proofs.Ytbjnfephigcdkaa.Bits
open Go.RowKit Go.Proofs.YtbjnfephigcdkaaW.PrintWords Go.Proofs.YtbjnfephigcdkaaW.PrintLast Go.Proofs.YtbjnfephigcdkaaW.PrintMore Go.Proofs.Ytbjnfephigcdkaa.PBitmapPlays
attribute [local go_sem] max2_int min2_int max_two min_two max_three min_three max_four min_four
set_option linter.unusedVariables false
set_option linter.unusedSimpArgs false
/-- What All hands back, read: a slice with these places. -/
theorem All_read (W : World) (g b : Nat) (x : List Bool) (h : IsSet W g b x) : Calls Try.prog 58 #[.pointer (some ⟨g, 0, none⟩)] W fun e w' => ∃ A c, e = .returned (.slice A (allTo x x.length).length c) ∧ (allTo x x.length).length ≤ c ∧ (Kd.int .i64).C w' A (allTo x x.length).length (allTo x x.length) ∧ Below W.heap.size W w' := by
  refine (All_any W g b x h).mono ?_
  rintro e w' ⟨v, rfl, hR, hB⟩
  obtain ⟨A, c, rfl⟩ := Kd.R_slice hR
  obtain ⟨_, hc, hC⟩ := Kd.R_reads' hR
  exact ⟨A, c, rfl, hc, hC, hB⟩
/-- What is behind a set's making: it is told, read, and told again. -/
theorem back_same (W : World) (A0 A1 : Option Addr) (c0 c1 : Nat) (l : List Int) (hr0 : (Kd.int .i64).C W A0 l.length l) (hc0 : l.length ≤ c0) (hr1 : (Kd.int .i64).C W A1 l.length l) (hc1 : l.length ≤ c1) (hl : l.length ≤ 65536) :
    Calls Try.prog 57 #[.slice A0 l.length c0, .slice A1 l.length c1] W fun e w' => e = .returned (.bool true) ∧ Drawn0 W w' := by
  have := same7_any W A0 c0 l A1 c1 l hr0 hc0 hr1 hc1 (by omega)
  rwa [decide_eq_true rfl] at this
theorem same_true (W : World) (A0 A1 : Option Addr) (c0 c1 n0 n1 : Nat) (l : List Int) (h0 : n0 = l.length) (h1 : n1 = l.length) (hr0 : (Kd.int .u8).C W A0 l.length l) (hc0 : l.length ≤ c0) (hr1 : (Kd.int .u8).C W A1 l.length l) (hc1 : l.length ≤ c1) (hl : l.length ≤ 65536) :
    Calls Try.prog 17 #[.slice A0 n0 c0, .slice A1 n1 c1] W fun e w' => e = .returned (.bool true) ∧ Drawn0 W w' := by
  subst h0 h1
  have := same_any W A0 c0 l A1 c1 l hr0 hc0 hr1 hc1 (by omega)
  rwa [decide_eq_true rfl] at this
theorem Bytes_read (W : World) (g b : Nat) (x : List Bool) (h : IsSet W g b x) : Calls Try.prog 40 #[.pointer (some ⟨g, 0, none⟩)] W fun e w' => ∃ c, e = .returned (.slice (some ⟨c, 0, none⟩) (pack x).length (pack x).length) ∧ (Kd.int .u8).C w' (some ⟨c, 0, none⟩) (pack x).length (pack x) ∧ Below W.heap.size W w' := by
  refine (Bytes_any W g b x h).mono ?_
  rintro e w' ⟨c, rfl, hc, _, hB⟩
  have hle := h.le
  exact ⟨c, by rw [pack_len], C_blk hc (by rw [pack_len]; omega), hB⟩
theorem Read_zero (W : World) (A : Option Addr) (l : List Int) (c : Nat) (n : Int) (hr : (Kd.int .u8).C W A l.length l) (hw : ∀ v ∈ l, 0 ≤ v ∧ v < 256) (he : readErr l n = 0) : Calls Try.prog 38 #[.slice A l.length c, .int .i64 n] W fun e w' => ∃ g b, e = .returned (.tuple #[.pointer (some ⟨g, 0, none⟩), .int .i64 0]) ∧ IsSet w' g b (unp l n.toNat) ∧ l = pack (unp l n.toNat) ∧ Below W.heap.size W w' := by
  refine (Read_any W A l c n hr hw).mono ?_
  intro e w' h
  unfold ReadPost at h
  rw [if_pos he] at h
  obtain ⟨g, b, rfl, hS, hp, _, _, _, _, hB⟩ := h
  exact ⟨g, b, rfl, hS, hp, hB⟩
theorem Read_else (W : World) (A : Option Addr) (l : List Int) (c : Nat) (n : Int) (hr : (Kd.int .u8).C W A l.length l) (hw : ∀ v ∈ l, 0 ≤ v ∧ v < 256) (he : readErr l n ≠ 0) : Calls Try.prog 38 #[.slice A l.length c, .int .i64 n] W fun e w' => e = .returned (.tuple #[.pointer none, .int .i64 (readErr l n)]) ∧ Below W.heap.size W w' := by
  refine (Read_any W A l c n hr hw).mono ?_
  intro e w' h
  unfold ReadPost at h
  rw [if_neg he] at h
  exact h
theorem Read_else' (W : World) (A : Option Addr) (l : List Int) (c : Nat) (n ev : Int) (hr : (Kd.int .u8).C W A l.length l) (hw : ∀ v ∈ l, 0 ≤ v ∧ v < 256) (hev : readErr l n = ev) (he : ¬ ev = 0) : Calls Try.prog 38 #[.slice A l.length c, .int .i64 n] W fun e w' => e = .returned (.tuple #[.pointer none, .int .i64 ev]) ∧ Below W.heap.size W w' := by
  subst hev
  exact Read_else W A l c n hr hw he
set_option maxHeartbeats 8000000 in
theorem back_walk (n : Int) (A : Option Addr) (l : List Int) (c : Nat) (A2 : Option Addr) (l2 : List Int) (c2 : Nat) (m : Int) (W : World) (hr : (Kd.int .i64).C W A l.length l) (hm : l.length ≤ maxLen) (hr2 : (Kd.int .u8).C W A2 l2.length l2) (hc2 : l2.length ≤ c2) (hm2 : l2.length ≤ maxLen) (hw2 : ∀ v ∈ l2, 0 ≤ v ∧ v < 256) :
    Calls Try.prog 13 #[.int .i64 n, .slice A l.length c, .slice A2 l2.length c2, .int .i64 m] W fun e w' => e = .returned (.bool true) ∧ Below W.heap.size W w' := by
  unfold maxLen at hm hm2
  by_cases hout : 100 < l.length ∨ n < 0 ∨ 500 < n ∨ 500 < l2.length
  · have hout' : ((100 : Int) < (l.length : Int)) ∨ n < 0 ∨ 500 < n ∨ ((500 : Int) < (l2.length : Int)) := by omega
    by_cases h1 : (100 : Int) < (l.length : Int)
    · go_enter Try.func13, Try.ntmps13
      go_wp2_with (go_at_call 37; refine (awake_any _).mono ?_; rintro e w1 ⟨rfl, hB⟩)
      go_ret
      exact ⟨rfl, hB⟩
    by_cases h2 : n < 0
    · go_enter Try.func13, Try.ntmps13
      go_wp2_with (go_at_call 37; refine (awake_any _).mono ?_; rintro e w1 ⟨rfl, hB⟩)
      go_ret
      exact ⟨rfl, hB⟩
    by_cases h3 : 500 < n
    · go_enter Try.func13, Try.ntmps13
      go_wp2_with (go_at_call 37; refine (awake_any _).mono ?_; rintro e w1 ⟨rfl, hB⟩)
      go_ret
      exact ⟨rfl, hB⟩
    have h4 : (500 : Int) < (l2.length : Int) := by omega
    go_enter Try.func13, Try.ntmps13
    go_wp2_with (go_at_call 37; refine (awake_any _).mono ?_; rintro e w1 ⟨rfl, hB⟩)
    go_ret
    exact ⟨rfl, hB⟩
  obtain ⟨k, rfl⟩ := Int.eq_ofNat_of_zero_le (show 0 ≤ n by omega)
  have h1 : ¬ (100 : Int) < (l.length : Int) := by omega
  have h2 : ¬ (500 : Int) < (k : Int) := by omega
  have h3 : ¬ (500 : Int) < (l2.length : Int) := by omega
  have h4 : l2.length ≤ 500 := by omega
  have h5 : decide ((k : Int) < 0) = false := by simp
  clear hout
  have hN := New_some k W (by omega)
  have HR2 := Aside0.mk hr2
  have HW2 := Aside0.mk hw2
  clear hr2 hw2
  go_enter Try.func13, Try.ntmps13
  go_wp2_with (go_at_call 43; refine hN.mono ?_; rintro e w1 ⟨g, b, rfl, hS0, hg, hb, hB⟩)
  go_loopw [10] (fun k' wr => ∃ (j : Nat) (x : List Bool), j ≤ l.length ∧ k' = .int .i64 j ∧ Aside0 (x.length = k) ∧ IsSet wr g b x ∧ Aside0 (Below W.heap.size W wr)) (fun k _ => l.length - (intOf k).toNat)
  case atStart => exact ⟨0, _, Nat.zero_le _, rfl, ⟨by simp⟩, hS0, ⟨hB⟩⟩
  case round =>
    clear hS0 hB
    obtain ⟨j, x, hj, rfl, hx, hS, hB⟩ := hrel
    by_cases hlt : j < l.length
    · obtain ⟨ad, rfl, hc⟩ := C_cells64 hr (by omega)
      have hc0 := hc j hlt
      clear hc
      have hcl := (hB.out.cell (p := ad.add j) (blk_of_cell hc0)).trans hc0
      clear hc0
      generalize l.getD j 0 = v at hcl
      go_wp2_with (go_at_call 44; refine (Mark_any _ _ _ _ _ hS).mono ?_; rintro e w2 ⟨rfl, hS2, _, _, hf⟩; have HB := Aside0.mk (hf _ _ hb hB.out); clear hf hB hS)
      exact ⟨⟨j + 1, _, by omega, rfl, ⟨by rw [mark_len]; exact hx.out⟩, hS2, HB⟩, by simp [intOf]; omega⟩
    · have hx0 := hx.out
      have hle := hS.le
      subst hx0
      clear hN h1 hr
      have hal := allTo_le x x.length
      have hR2 := Kd.C_below HR2.out hB.out
      by_cases he : readErr l2 m = 0
      · go_wp2_with (first | (go_at_call 40; (with_reducible refine (Bytes_read _ _ _ _ hS).mono ?_); rintro e w2 ⟨d, rfl, hd, hB2⟩; have hS2 := hS.below hB2; clear hS) | (go_at_call 38; (with_reducible refine (Read_pack _ _ _ _ hd hle).mono ?_); rintro e w3 ⟨g3, b3, rfl, hT, hg3, hb3, hB3⟩; have hS3 := hS2.below hB3; clear hS2) | (go_at_call 58; (with_reducible refine (All_read _ _ _ _ hS3).mono ?_); rintro e w4 ⟨A4, c4, rfl, hc4, hA4, hB4⟩; have hS4 := hS3.below hB4; have hT4 := hT.below hB4; clear hS3 hT) | (go_at_call 58; (with_reducible refine (All_read _ _ _ _ hT4).mono ?_); rintro e w5 ⟨A5, c5, rfl, hc5, hA5, hB5⟩; have hS5 := hS4.below hB5; have hT5 := hT4.below hB5; have hA4' := Kd.C_below hA4 hB5; clear hS4 hT4) | (go_at_call 57; (with_reducible refine (back_same _ _ _ _ _ _ hA4' hc4 hA5 hc5 (by omega)).mono ?_); rintro e w6 ⟨rfl, hd6⟩; have hS6 := hS5.drawn hd6; have hT6 := hT5.drawn hd6; clear hS5 hT5) | (go_at_call 47; (with_reducible refine (Count_any _ _ _ _ hS6).mono ?_); rintro e w7 ⟨rfl, hd7⟩; have hT7 := hT6.drawn hd7; clear hT6) | (go_at_call 47; (with_reducible refine (Count_any _ _ _ _ hT7).mono ?_); rintro e w8 ⟨rfl, hd8⟩; have hR3 := Kd.C_below (Kd.C_below (Kd.C_below (Kd.C_below (Kd.C_below (Kd.C_below (Kd.C_below hR2 hB2) hB3) hB4) hB5) hd6.below) hd7.below) hd8.below; have HB8 := Aside0.mk ((((below_step (below_step (below_step (below_step hB.out hB2) hB3) hB4) hB5).trans_drawn hd6).trans_drawn hd7).trans_drawn hd8)) | (go_at_call 38; (with_reducible refine (Read_zero _ _ _ _ _ hR3 HW2.out he).mono ?_); rintro e w9 ⟨g9, b9, rfl, hU, hpk, hB9⟩; have HPK := Aside0.mk hpk; clear hpk; have HB9 := Aside0.mk (below_step HB8.out hB9); clear HB8) | (go_at_call 40; (with_reducible refine (Bytes_read _ _ _ _ hU).mono ?_); rintro e w10 ⟨d10, rfl, hd10, hB10⟩) | (go_at_call 17; (with_reducible refine (same_true _ _ _ _ _ _ _ l2 (by rw [← HPK.out]) rfl (by rw [← HPK.out] at hd10; exact hd10) (by rw [← HPK.out]; exact Nat.le_refl _) (Kd.C_below (Kd.C_below hR3 hB9) hB10) hc2 (by omega)).mono ?_); rintro e w11 ⟨rfl, hd11⟩; have HB11 := Aside0.mk ((below_step HB9.out hB10).trans_drawn hd11); clear HB9) | (go_at_call 44; (with_reducible refine (Mark_nil _ _).mono ?_); rintro e w' ⟨rfl, rfl⟩) | (go_at_call 45; (with_reducible refine (Has_nil _ _).mono ?_); rintro e w' ⟨rfl, rfl⟩) | (go_at_call 42; (with_reducible refine (Len_nil _).mono ?_); rintro e w' ⟨rfl, rfl⟩) | (go_at_call 47; (with_reducible refine (Count_nil _).mono ?_); rintro e w' ⟨rfl, rfl⟩) | (go_at_call 46; (with_reducible refine (Rank_nil _ _).mono ?_); rintro e w' ⟨rfl, rfl⟩) | (go_at_call 40; (with_reducible refine (Bytes_nil _).mono ?_); rintro e w' ⟨rfl, rfl⟩) | (go_at_call 55; (with_reducible refine (Copy_nil _).mono ?_); rintro e w' ⟨rfl, rfl⟩) | (go_at_call 58; (with_reducible refine (All_nil _).mono ?_); rintro e w' ⟨rfl, rfl⟩) | (go_at_call 37; refine (awake_any _).mono ?_; rintro e w12 ⟨rfl, hB12⟩))
        go_ret
        exact ⟨rfl, below_step HB11.out hB12⟩
      · generalize hev : readErr l2 m = ev at *
        have HEV := Aside0.mk hev
        clear hev
        go_wp2_with (first | (go_at_call 40; (with_reducible refine (Bytes_read _ _ _ _ hS).mono ?_); rintro e w2 ⟨d, rfl, hd, hB2⟩; have hS2 := hS.below hB2; clear hS) | (go_at_call 38; (with_reducible refine (Read_pack _ _ _ _ hd hle).mono ?_); rintro e w3 ⟨g3, b3, rfl, hT, hg3, hb3, hB3⟩; have hS3 := hS2.below hB3; clear hS2) | (go_at_call 58; (with_reducible refine (All_read _ _ _ _ hS3).mono ?_); rintro e w4 ⟨A4, c4, rfl, hc4, hA4, hB4⟩; have hS4 := hS3.below hB4; have hT4 := hT.below hB4; clear hS3 hT) | (go_at_call 58; (with_reducible refine (All_read _ _ _ _ hT4).mono ?_); rintro e w5 ⟨A5, c5, rfl, hc5, hA5, hB5⟩; have hS5 := hS4.below hB5; have hT5 := hT4.below hB5; have hA4' := Kd.C_below hA4 hB5; clear hS4 hT4) | (go_at_call 57; (with_reducible refine (back_same _ _ _ _ _ _ hA4' hc4 hA5 hc5 (by omega)).mono ?_); rintro e w6 ⟨rfl, hd6⟩; have hS6 := hS5.drawn hd6; have hT6 := hT5.drawn hd6; clear hS5 hT5) | (go_at_call 47; (with_reducible refine (Count_any _ _ _ _ hS6).mono ?_); rintro e w7 ⟨rfl, hd7⟩; have hT7 := hT6.drawn hd7; clear hT6) | (go_at_call 47; (with_reducible refine (Count_any _ _ _ _ hT7).mono ?_); rintro e w8 ⟨rfl, hd8⟩; have hR3 := Kd.C_below (Kd.C_below (Kd.C_below (Kd.C_below (Kd.C_below (Kd.C_below (Kd.C_below hR2 hB2) hB3) hB4) hB5) hd6.below) hd7.below) hd8.below; have HB8 := Aside0.mk ((((below_step (below_step (below_step (below_step hB.out hB2) hB3) hB4) hB5).trans_drawn hd6).trans_drawn hd7).trans_drawn hd8)) | (go_at_call 38; (with_reducible refine (Read_else' _ _ _ _ _ _ hR3 HW2.out HEV.out he).mono ?_); rintro e w9 ⟨rfl, hB9⟩; have HB9 := Aside0.mk (below_step HB8.out hB9); clear HB8) | (go_at_call 44; (with_reducible refine (Mark_nil _ _).mono ?_); rintro e w' ⟨rfl, rfl⟩) | (go_at_call 45; (with_reducible refine (Has_nil _ _).mono ?_); rintro e w' ⟨rfl, rfl⟩) | (go_at_call 42; (with_reducible refine (Len_nil _).mono ?_); rintro e w' ⟨rfl, rfl⟩) | (go_at_call 47; (with_reducible refine (Count_nil _).mono ?_); rintro e w' ⟨rfl, rfl⟩) | (go_at_call 46; (with_reducible refine (Rank_nil _ _).mono ?_); rintro e w' ⟨rfl, rfl⟩) | (go_at_call 40; (with_reducible refine (Bytes_nil _).mono ?_); rintro e w' ⟨rfl, rfl⟩) | (go_at_call 55; (with_reducible refine (Copy_nil _).mono ?_); rintro e w' ⟨rfl, rfl⟩) | (go_at_call 58; (with_reducible refine (All_nil _).mono ?_); rintro e w' ⟨rfl, rfl⟩) | (go_at_call 37; refine (awake_any _).mono ?_; rintro e w12 ⟨rfl, hB12⟩))
        go_ret
        exact ⟨rfl, below_step HB9.out hB12⟩
theorem back_row (a0 : Int) (a1 : Option Addr) (len1 cap1 : Nat) (z1 : List Int) (a2 : Option Addr) (len2 cap2 : Nat) (z2 : List Int) (a3 : Int) (w : World) (w0 : (Lit.int .i64 a0).wf = true)
    (w1 : (a1 = none ∧ len1 = 0 ∧ cap1 = 0 ∧ z1 = []) ∨ ∃ x, a1 = some x ∧ len1 ≤ cap1 ∧ cap1 ≤ maxLen ∧ z1.length = cap1 ∧ (∀ i, i < z1.length → w.cell? (x.add i) = some (.int .i64 (z1.getD i 0))) ∧ ∀ n ∈ z1, (Lit.int .i64 n).wf = true) (y1 : len1 * 8 ≤ 140737488351232)
    (w2 : (a2 = none ∧ len2 = 0 ∧ cap2 = 0 ∧ z2 = []) ∨ ∃ x, a2 = some x ∧ len2 ≤ cap2 ∧ cap2 ≤ maxLen ∧ z2.length = cap2 ∧ (∀ i, i < z2.length → w.cell? (x.add i) = some (.int .u8 (z2.getD i 0))) ∧ ∀ n ∈ z2, (Lit.int .u8 n).wf = true) (y2 : len2 * 1 ≤ 140737488351232) (w3 : (Lit.int .i64 a3).wf = true) :
    Calls Try.prog 13 #[.int .i64 a0, .slice a1 len1 cap1, .slice a2 len2 cap2, .int .i64 a3] w fun e w' => e = .returned (.bool true) ∧ Below w.heap.size w w' := by
  obtain ⟨l1, rfl, hr1, hm1, hw1, hc1⟩ := ReadsInt.ofRowC w1
  obtain ⟨l2, rfl, hr2, hm2, hw2, hc2⟩ := ReadsInt.ofRowC w2
  exact back_walk a0 a1 l1 cap1 a2 l2 cap2 a3 w (Kd.C_of_reads (d := (0 : Int)) (h1 := fun _ => rfl) hr1) hm1 (Kd.C_of_reads (d := (0 : Int)) (h1 := fun _ => rfl) hr2) hc2 hm2 (fun v hv => by have := hw2 v hv; simp [Lit.wf, IntKind.min, IntKind.max, IntKind.signed, IntKind.bits] at this; omega)
end Go.Proofs.Ytbjnfephigcdkaa.Bits
