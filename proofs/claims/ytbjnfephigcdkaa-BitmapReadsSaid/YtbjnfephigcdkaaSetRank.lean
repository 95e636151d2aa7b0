/- estreatlaw07.BitmapRank hands back true, for every input. -/
import Derived.Test.YtbjnfephigcdkaaSetAwake
namespace Go.Proofs.Ytbjnfephigcdkaa.Bits
open Go.RowKit Go.Proofs.YtbjnfephigcdkaaW.PrintWords Go.Proofs.YtbjnfephigcdkaaW.PrintLast Go.Proofs.YtbjnfephigcdkaaW.PrintMore Go.Proofs.Ytbjnfephigcdkaa.PBitmapPlays
attribute [local go_sem] max2_int min2_int max_two min_two max_three min_three max_four min_four
set_option linter.unusedVariables false
set_option linter.unusedSimpArgs false
theorem C_cells64 {W : World} {A : Option Addr} {l : List Int} (h : (Kd.int .i64).C W A l.length l) (hpos : 0 < l.length) : ∃ ad, A = some ad ∧ ∀ j (hj : j < l.length), W.cell? (ad.add j) = some (.int .i64 (l.getD j 0)) := by
  obtain ⟨h1, h2, hc⟩ := h
  obtain ⟨ad, hA, hd⟩ := hc hpos
  refine ⟨ad, hA, fun j hj => ?_⟩
  obtain ⟨c, hl, hR, hu⟩ := hd j l[j] (by simp [hj])
  have e : c = [.int .i64 l[j]] := hR
  subst e
  have := hu 0 _ rfl
  simpa [Kd.int, Kd.scalar, List.getD, hj] using this
theorem _root_.Go.RowKit.Below.trans_drawn {B : Nat} {w0 w w' : World} (h : Below B w0 w) (hd : Drawn0 w w') : Below B w0 w' := by
  obtain ⟨n, rfl⟩ := hd.out
  exact pw_below_drewN h n
theorem Rank_nat (W : World) (g b : Nat) (x : List Bool) (i : Nat) (h : IsSet W g b x) (hi : i ≤ x.length) : Calls Try.prog 46 #[.pointer (some ⟨g, 0, none⟩), .int .i64 i] W fun e w' => e = .returned (.int .i64 (cnt x i)) ∧ Drawn0 W w' := by
  have := Rank_any W g b x i h
  rwa [show clamp x i = i from by unfold clamp; omega] at this
theorem Rank_next (W : World) (g b : Nat) (x : List Bool) (i : Nat) (h : IsSet W g b x) (hi : i < x.length) : Calls Try.prog 46 #[.pointer (some ⟨g, 0, none⟩), .int .i64 ((i : Int) + 1)] W fun e w' => e = .returned (.int .i64 ((cnt x i : Int) + (x.getD i false).toInt)) ∧ Drawn0 W w' := by
  have := Rank_nat W g b x (i + 1) h (by omega)
  rwa [cnt_succ] at this
set_option maxHeartbeats 4000000 in
theorem rank_walk (n : Int) (A : Option Addr) (l : List Int) (c : Nat) (i : Int) (W : World) (hr : (Kd.int .i64).C W A l.length l) (hm : l.length ≤ maxLen) :
    Calls Try.prog 9 #[.int .i64 n, .slice A l.length c, .int .i64 i] W fun e w' => e = .returned (.bool true) ∧ Below W.heap.size W w' := by
  unfold maxLen at hm
  by_cases h0 : n < 0
  · go_enter Try.func9, Try.ntmps9
    go_wp2_with (go_at_call 37; refine (awake_any _).mono ?_; rintro e w1 ⟨rfl, hB⟩)
    go_ret
    exact ⟨rfl, hB⟩
  by_cases h1 : 500 < n
  · go_enter Try.func9, Try.ntmps9
    go_wp2_with (go_at_call 37; refine (awake_any _).mono ?_; rintro e w1 ⟨rfl, hB⟩)
    go_ret
    exact ⟨rfl, hB⟩
  by_cases h2 : 100 < l.length
  · have h2' : (100 : Int) < (l.length : Int) := by omega
    go_enter Try.func9, Try.ntmps9
    go_wp2_with (go_at_call 37; refine (awake_any _).mono ?_; rintro e w1 ⟨rfl, hB⟩)
    go_ret
    exact ⟨rfl, hB⟩
  obtain ⟨m, rfl⟩ := Int.eq_ofNat_of_zero_le (show 0 ≤ n by omega)
  have h2' : ¬ (100 : Int) < (l.length : Int) := by omega
  have hN := New_some m W (by omega)
  go_enter Try.func9, Try.ntmps9
  go_wp2_with (go_at_call 43; refine hN.mono ?_; rintro e w1 ⟨g, b, rfl, hS0, hg, hb, hB⟩)
  go_loopw [8] (fun k wr => ∃ (j : Nat) (x : List Bool), j ≤ l.length ∧ k = .int .i64 j ∧ Aside0 (x.length = m) ∧ IsSet wr g b x ∧ Aside0 (Below W.heap.size W wr)) (fun k _ => l.length - (intOf k).toNat)
  case atStart => exact ⟨0, _, Nat.zero_le _, rfl, ⟨by simp⟩, hS0, ⟨hB⟩⟩
  case round =>
    clear hS0 hB
    obtain ⟨j, x, hj, rfl, hx, hS, hB⟩ := hrel
    by_cases hlt : j < l.length
    · obtain ⟨ad, rfl, hc⟩ := C_cells64 hr (by omega)
      have hc0 := hc j hlt
      clear hc
      have hcl := (hB.out.cell (p := ad.add j) (blk_of_cell hc0)).trans hc0
      clear hc0
      generalize l.getD j 0 = v at hcl
      go_wp2_with (go_at_call 44; refine (Mark_any _ _ _ _ _ hS).mono ?_; rintro e w2 ⟨rfl, hS2, _, _, hf⟩; have HB := Aside0.mk (hf _ _ hb hB.out); clear hf hB hS)
      exact ⟨⟨j + 1, _, by omega, rfl, ⟨by rw [mark_len]; exact hx.out⟩, hS2, HB⟩, by simp [intOf]; omega⟩
    · have hx0 := hx.out
      have hle := hS.le
      go_wp2
      subst hx0
      clear hN h0 h1 h2 h2' hlt
      go_loopw [9, 10, 11] (fun v k _ wr => ∃ (j : Nat), j ≤ x.length ∧ k = .int .i64 j ∧ v = .int .i64 ((cnt x j : Int) - cnt x (min j (clamp x i))) ∧ IsSet wr g b x ∧ Aside0 (Below W.heap.size W wr)) (fun _ k _ _ => x.length - (intOf k).toNat)
      case atStart => exact ⟨0, Nat.zero_le _, rfl, by simp, hS, hB⟩
      case round =>
        clear hS hB
        obtain ⟨j, hj, rfl, rfl, hS, hB⟩ := hrel
        by_cases hlt : j < x.length
        · have b1 := cnt_le x j
          have b2 := cnt_le x (min j (clamp x i))
          have hH := fun (w : World) (h : IsSet w g b x) => Has_in w g b x j h hlt
          have hR0 := fun (w : World) (h : IsSet w g b x) => Rank_nat w g b x j h hj
          have hR1 := fun (w : World) (h : IsSet w g b x) => Rank_next w g b x j h hlt
          by_cases hi : i ≤ j
          · have hs : (cnt x (j + 1) : Int) - cnt x (min (j + 1) (clamp x i)) = (cnt x j : Int) - cnt x (min j (clamp x i)) + (x.getD j false).toInt := by
              have := cnt_succ x j
              rw [show min (j + 1) (clamp x i) = min j (clamp x i) from by unfold clamp; omega]; omega
            cases hb : x.getD j false
            all_goals
              rw [hb] at hH hR1
              try rw [hb] at hs
              have HS := Aside0.mk hs
              clear hs hb
              simp only [Bool.toInt_false, Bool.toInt_true, Int.add_zero] at hR1 HS
              go_wp2_with (first | (go_at_call 45; refine (hH _ hS).mono ?_; rintro e w2 ⟨rfl, rfl⟩) | (go_at_call 46; (with_reducible refine (hR0 _ hS).mono ?_); rintro e w3 ⟨rfl, hd3⟩; have hS3 := hS.drawn hd3; clear hS) | (go_at_call 46; refine (hR1 _ hS3).mono ?_; rintro e w4 ⟨rfl, hd4⟩; have hS4 := hS3.drawn hd4))
              have HB4 := ((hB.out.trans_drawn hd3).trans_drawn hd4)
              exact ⟨⟨j + 1, by omega, rfl, by rw [HS.out], hS4, ⟨HB4⟩⟩, by simp [intOf]; omega⟩
          · have hs : (cnt x (j + 1) : Int) - cnt x (min (j + 1) (clamp x i)) = (cnt x j : Int) - cnt x (min j (clamp x i)) := by
              have := cnt_succ x j
              rw [show min (j + 1) (clamp x i) = j + 1 from by unfold clamp; omega, show min j (clamp x i) = j from by unfold clamp; omega]; omega
            cases hb : x.getD j false
            all_goals
              rw [hb] at hH hR1
              try rw [hb] at hs
              have HS := Aside0.mk hs
              clear hs hb
              simp only [Bool.toInt_false, Bool.toInt_true, Int.add_zero] at hR1 HS
              go_wp2_with (first | (go_at_call 45; refine (hH _ hS).mono ?_; rintro e w2 ⟨rfl, rfl⟩) | (go_at_call 46; (with_reducible refine (hR0 _ hS).mono ?_); rintro e w3 ⟨rfl, hd3⟩; have hS3 := hS.drawn hd3; clear hS) | (go_at_call 46; refine (hR1 _ hS3).mono ?_; rintro e w4 ⟨rfl, hd4⟩; have hS4 := hS3.drawn hd4))
              have HB4 := ((hB.out.trans_drawn hd3).trans_drawn hd4)
              exact ⟨⟨j + 1, by omega, rfl, by rw [HS.out], hS4, ⟨HB4⟩⟩, by simp [intOf]; omega⟩
        · obtain rfl : j = x.length := by omega
          have hle2 : clamp x i ≤ x.length := by unfold clamp; omega
          have b1 := cnt_le x x.length
          have b2 := cnt_le x (clamp x i)
          have hmin : min x.length (clamp x i) = clamp x i := by omega
          rw [hmin]
          have hR := fun (w : World) (h : IsSet w g b x) => Rank_any w g b x i h
          have hC := fun (w : World) (h : IsSet w g b x) => Count_any w g b x h
          have hRl := fun (w : World) (k : Int) (hk : k ≤ 0) (h : IsSet w g b x) => Rank_low w g b x k h hk
          clear hmin
          generalize cnt x (clamp x i) = p at *
          generalize cnt x x.length = q at *
          go_wp2_with (first | (go_at_call 46; (with_reducible refine (hR _ hS).mono ?_); rintro e w3 ⟨rfl, hd3⟩; have hS3 := hS.drawn hd3; clear hS) | (go_at_call 47; refine (hC _ hS3).mono ?_; rintro e w4 ⟨rfl, hd4⟩; have hS4 := hS3.drawn hd4) | (go_at_call 46; (with_reducible refine (hRl _ _ (by decide) hS4).mono ?_); rintro e w5 ⟨rfl, hd5⟩; have hS5 := hS4.drawn hd5; clear hS4) | (go_at_call 46; (with_reducible refine (hRl _ _ (by decide) hS5).mono ?_); rintro e w6 ⟨rfl, hd6⟩) | (go_at_call 37; refine (awake_any _).mono ?_; rintro e w7 ⟨rfl, hB7⟩))
          go_ret
          exact ⟨rfl, below_step ((((hB.out.trans_drawn hd3).trans_drawn hd4).trans_drawn hd5).trans_drawn hd6) hB7⟩
theorem rank_row (a0 : Int) (a1 : Option Addr) (len1 cap1 : Nat) (z1 : List Int) (a2 : Int) (w : World) (w0 : (Lit.int .i64 a0).wf = true)
    (w1 : (a1 = none ∧ len1 = 0 ∧ cap1 = 0 ∧ z1 = []) ∨ ∃ x, a1 = some x ∧ len1 ≤ cap1 ∧ cap1 ≤ maxLen ∧ z1.length = cap1 ∧ (∀ i, i < z1.length → w.cell? (x.add i) = some (.int .i64 (z1.getD i 0))) ∧ ∀ n ∈ z1, (Lit.int .i64 n).wf = true) (y1 : len1 * 8 ≤ 140737488351232) (w2 : (Lit.int .i64 a2).wf = true) :
    Calls Try.prog 9 #[.int .i64 a0, .slice a1 len1 cap1, .int .i64 a2] w fun e w' => e = .returned (.bool true) ∧ Below w.heap.size w w' := by
  obtain ⟨l1, rfl, hr1, hm1, hw1, hc1⟩ := ReadsInt.ofRowC w1
  exact rank_walk a0 a1 l1 cap1 a2 w (Kd.C_of_reads (d := (0 : Int)) (h1 := fun _ => rfl) hr1) hm1
end Go.Proofs.Ytbjnfephigcdkaa.Bits
