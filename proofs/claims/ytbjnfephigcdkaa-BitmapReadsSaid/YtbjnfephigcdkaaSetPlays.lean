/- estreatlaw07.BitmapPlays hands back true, for every input. -/
import Derived.Test.YtbjnfephigcdkaaSetBack
namespace Go.Proofs.Ytbjnfephigcdkaa.Bits
open Go.RowKit Go.Proofs.YtbjnfephigcdkaaW.PrintWords Go.Proofs.YtbjnfephigcdkaaW.PrintLast Go.Proofs.YtbjnfephigcdkaaW.PrintMore Go.Proofs.Ytbjnfephigcdkaa.PBitmapPlays
attribute [local go_sem] max2_int min2_int max_two min_two max_three min_three max_four min_four
set_option linter.unusedVariables false
set_option linter.unusedSimpArgs false
theorem made_false (n : Nat) : madeCells #[.bool false] n = Array.replicate n (Value.bool false) := by
  unfold madeCells
  apply Array.ext
  · simp
  · intro i h1 h2
    simp [Nat.mod_one]
/-- A row of marks at block d. -/
def IsMarks (W : World) (d : Nat) (x : List Bool) : Prop := W.heap[d]? = some (.cells (x.map Value.bool).toArray 4 (0, 0))
theorem IsMarks.cell {W : World} {d : Nat} {x : List Bool} (h : IsMarks W d x) {q : Nat} (hq : q < x.length) : W.cell? ⟨d, q, none⟩ = some (.bool (x.getD q false)) := by
  rw [blk_cell h q]
  simp [List.getD, hq]
theorem IsMarks.below {W W' : World} {d : Nat} {x : List Bool} (h : IsMarks W d x) (hb : Below W.heap.size W W') : IsMarks W' d x := blk_below h hb
theorem IsMarks.set {W : World} {d : Nat} {x : List Bool} (h : IsMarks W d x) (q : Nat) : IsMarks (W.setCell ⟨d, q, none⟩ (.bool true)) d (x.set q true) := by
  unfold IsMarks
  rw [blk_set h q (.bool true), List.map_set]
  simp
theorem IsMarks.C {W : World} {d : Nat} {x : List Bool} (h : IsMarks W d x) (hx : x.length ≤ 65536) : Kd.bool.C W (some ⟨d, 0, none⟩) x.length x := by
  refine Kd.C_of_reads (enc := Value.bool) (d := false) (h1 := fun _ => rfl) ⟨rfl, by omega, fun _ => ⟨_, rfl, fun j hj => ?_⟩⟩
  rw [show (Addr.add ⟨d, 0, none⟩ j) = ⟨d, j, none⟩ from by by_cases h0 : j = 0 <;> simp [Addr.add, h0]]
  exact h.cell hj
theorem IsSet.same {W W' : World} {g b : Nat} {x : List Bool} (h : IsSet W g b x) (hg : W'.heap[g]? = W.heap[g]?) (hb : W'.heap[b]? = W.heap[b]?) : IsSet W' g b x := ⟨hg.trans h.head, hb.trans h.row, h.le⟩
theorem IsSet.far {W : World} {g b d q : Nat} {x y : List Bool} (h : IsSet W g b x) (hd : IsMarks W d y) (u : Value) : IsSet (W.setCell ⟨d, q, none⟩ u) g b x :=
  ⟨blk_far h.head (p := ⟨d, q, none⟩) (blk_ne h.head hd (by decide)) u, blk_far h.row (p := ⟨d, q, none⟩) (blk_ne h.row hd (by decide)) u, h.le⟩
theorem allTo_cnt (x : List Bool) : ∀ n, (allTo x n).length = cnt x n := by
  intro n
  induction n with
  | zero => rfl
  | succ n ih =>
    have h := cnt_succ x n
    rw [allTo_succ, List.length_append, ih]
    cases hx : x.getD n false
    · rw [hx] at h; simp at h ⊢; omega
    · rw [hx] at h; simp at h ⊢; omega
theorem cnt_false (n m : Nat) : cnt (List.replicate n false) m = 0 := by simp [cnt, List.take_replicate]
theorem refBytes_read (W : World) (A : Option Addr) (c : Nat) (x : List Bool) (hr : Kd.bool.C W A x.length x) (hc : x.length ≤ c) (hx : x.length ≤ 65536) :
    Calls Try.prog 41 #[.slice A x.length c] W fun e w' => ∃ A' c', e = .returned (.slice A' (pack x).length c') ∧ (pack x).length ≤ c' ∧ (Kd.int .u8).C w' A' (pack x).length (pack x) ∧ Below W.heap.size W w' := by
  refine (refBytes_any W A c x hr hc hx).mono ?_
  rintro e w' ⟨v, rfl, hR, hB⟩
  obtain ⟨A', c', rfl⟩ := Kd.R_slice hR
  obtain ⟨_, hc, hC⟩ := Kd.R_reads' hR
  exact ⟨A', c', rfl, hc, hC, hB⟩
theorem back_same' (W : World) (A0 A1 : Option Addr) (c0 c1 n0 n1 : Nat) (l : List Int) (h0 : n0 = l.length) (h1 : n1 = l.length) (hr0 : (Kd.int .i64).C W A0 l.length l) (hc0 : l.length ≤ c0) (hr1 : (Kd.int .i64).C W A1 l.length l) (hc1 : l.length ≤ c1) (hl : l.length ≤ 65536) :
    Calls Try.prog 57 #[.slice A0 n0 c0, .slice A1 n1 c1] W fun e w' => e = .returned (.bool true) ∧ Drawn0 W w' := by
  subst h0 h1
  exact back_same W A0 A1 c0 c1 l hr0 hc0 hr1 hc1 hl
theorem Count_none (W : World) (g b : Nat) (n : Nat) (h : IsSet W g b (List.replicate n false)) : Calls Try.prog 47 #[.pointer (some ⟨g, 0, none⟩)] W fun e w' => e = .returned (.int .i64 0) ∧ Drawn0 W w' := by
  have := Count_any W g b _ h
  rwa [cnt_false] at this
set_option maxHeartbeats 8000000 in
set_option maxRecDepth 100000 in
theorem plays_walk (n : Int) (A : Option Addr) (l : List Int) (c : Nat) (i : Int) (W : World) (hr : (Kd.int .i64).C W A l.length l) (hm : l.length ≤ maxLen) :
    Calls Try.prog 12 #[.int .i64 n, .slice A l.length c, .int .i64 i] W fun e w' => e = .returned (.bool true) ∧ Below W.heap.size W w' := by
  unfold maxLen at hm
  have info4 : (Try.prog.info? 4).map (fun i => (i.zero, i.size, i.bytes)) = some (some (.bool false), 1, 1) := by kernel_rfl
  have info3 : (Try.prog.info? 3).map (fun i => (i.zero, i.size, i.bytes)) = some (some (.int .i64 0), 1, 8) := by kernel_rfl
  by_cases h1 : (100 : Int) < (l.length : Int)
  · go_enter Try.func12, Try.ntmps12
    go_wp2_with (go_at_call 37; refine (awake_any _).mono ?_; rintro e w1 ⟨rfl, hB⟩)
    go_ret
    exact ⟨rfl, hB⟩
  by_cases h2 : 500 < n ∧ n ≤ 65536
  · obtain ⟨h2, h3⟩ := h2
    go_enter Try.func12, Try.ntmps12
    go_wp2_with (go_at_call 37; refine (awake_any _).mono ?_; rintro e w1 ⟨rfl, hB⟩)
    go_ret
    exact ⟨rfl, hB⟩
  by_cases h3 : n < 0
  · have h4 : ¬ 500 < n := by omega
    clear h2
    go_enter Try.func12, Try.ntmps12
    go_wp2_with (first | (go_at_call 43; refine (New_none _ _ (.inl h3)).mono ?_; rintro e w' ⟨rfl, rfl⟩) | (go_at_call 37; refine (awake_any _).mono ?_; rintro e w1 ⟨rfl, hB⟩))
    go_ret
    exact ⟨rfl, hB⟩
  by_cases h4 : 65536 < n
  · have h5 : 500 < n := by omega
    clear h2
    go_enter Try.func12, Try.ntmps12
    go_wp2_with (first | (go_at_call 43; refine (New_none _ _ (.inr h4)).mono ?_; rintro e w' ⟨rfl, rfl⟩) | (go_at_call 37; refine (awake_any _).mono ?_; rintro e w1 ⟨rfl, hB⟩))
    go_ret
    exact ⟨rfl, hB⟩
  obtain ⟨k, rfl⟩ := Int.eq_ofNat_of_zero_le (show 0 ≤ n by omega)
  have h5 : ¬ 500 < (k : Int) := by omega
  have hk : k ≤ 500 := by omega
  clear h2
  have hN := New_some k W (by omega)
  have hmk := print_make_of (P := Try.prog) 48 4 (.bool false) 1 Try.underlying48 info4 rfl (by decide) k (by omega)
  rw [made_false] at hmk
  go_enter Try.func12, Try.ntmps12
  go_wp2_with (first | (go_at_call 43; refine hN.mono ?_; rintro e w1 ⟨g, b, rfl, hS0, hg, hb, hB⟩) | (go_at_call 55; refine (Copy_any _ _ _ _ (hS0.below (below_alloc (Below.refl _ _) _))).mono ?_; rintro e w2 ⟨g', b', rfl, hO, hg', hb', hB2⟩))
  have hD0 : IsMarks (w1.alloc (.cells (Array.replicate k (Value.bool false)) 4)) w1.heap.size (List.replicate k false) := by
    unfold IsMarks
    rw [heap_alloc_new, List.map_replicate, List.toArray_replicate]
  have hD := hD0.below hB2
  have hS := (hS0.below (below_alloc (Below.refl _ _) (.cells (Array.replicate k (Value.bool false)) 4))).below hB2
  have hBB := below_step (below_alloc hB (.cells (Array.replicate k (Value.bool false)) 4)) hB2
  have hdg : W.heap.size ≤ w1.heap.size := below_size hB
  have hbb : b ≠ b' := by
    have h1 := blk_lt hS0.row
    have h2 : w1.heap.size ≤ b' := by have := hb'; simp at this; omega
    omega
  generalize hd : w1.heap.size = d at hD hdg ⊢
  clear hd hD0 hS0 hB hB2 hmk hN hg' hb'
  go_loopw [11] (fun k' wr => ∃ (j : Nat) (x : List Bool), j ≤ l.length ∧ k' = .int .i64 j ∧ Aside0 (x.length = k) ∧ IsSet wr g b x ∧ IsMarks wr d x ∧ IsSet wr g' b' (List.replicate k false) ∧ Aside0 (Below W.heap.size W wr)) (fun k _ => l.length - (intOf k).toNat)
  case atStart => exact ⟨0, _, Nat.zero_le _, rfl, ⟨by simp⟩, hS, hD, hO, ⟨hBB⟩⟩
  case round =>
    clear hS hD hO hBB
    obtain ⟨j, x, hj, rfl, hx, hS, hD, hO, hB⟩ := hrel
    have hx0 := hx.out
    subst hx0
    by_cases hlt : j < l.length
    · obtain ⟨ad, rfl, hc⟩ := C_cells64 hr (by omega)
      have hc0 := hc j hlt
      clear hc hx
      generalize l.getD j 0 = v at hc0
      have hblk := blk_of_cell hc0
      have hcl := (hB.out.cell (p := ad.add j) hblk).trans hc0
      have HCW := Aside0.mk hc0
      clear hc0
      by_cases hv0 : 0 ≤ v
      · obtain ⟨q, rfl⟩ := Int.eq_ofNat_of_zero_le hv0
        by_cases hq : q < x.length
        · have hcd := hD.cell hq
          cases hxq : x.getD q false
          · have HM := Mark_in _ _ _ _ _ hS hq hxq
            rw [hxq] at hcd
            clear hxq
            go_wp2_with (go_at_call 44; refine HM.mono ?_; rintro e w2 ⟨rfl, hS2, hsame, _, hf⟩; have HB := Aside0.mk (hf _ _ hb hB.out); have hD2 : IsMarks w2 d x := (hsame d (blk_ne hD hS.row (by decide))).trans hD; have hO2 := hO.same (hsame g' (blk_ne hO.head hS.row (by decide))) (hsame b' (Ne.symm hbb)); have hcd2 := hD2.cell hq; have hfz := blk_frozen hD2 q; have hcl2 := (HB.out.cell (p := ad.add j) hblk).trans HCW.out; clear hf hB hS hsame hD hO)
            exact ⟨⟨j + 1, x.set q true, by omega, rfl, ⟨by simp⟩, hS2.far hD2 _, hD2.set q, hO2.far hD2 _, ⟨HB.out.setCell (p := ⟨d, q, none⟩) hdg _⟩⟩, by simp [intOf]; omega⟩
          · have HM := Mark_again _ _ _ _ _ hS hq hxq
            rw [hxq] at hcd
            clear hxq
            go_wp2_with (go_at_call 44; refine HM.mono ?_; rintro e w2 ⟨rfl, rfl⟩)
            exact ⟨⟨j + 1, x, by omega, rfl, ⟨rfl⟩, hS, hD, hO, hB⟩, by simp [intOf]; omega⟩
        · have HM := Mark_out wr _ _ _ (q : Int) hS (by omega)
          go_wp2_with (go_at_call 44; refine HM.mono ?_; rintro e w2 ⟨rfl, rfl⟩)
          exact ⟨⟨j + 1, x, by omega, rfl, ⟨rfl⟩, hS, hD, hO, hB⟩, by simp [intOf]; omega⟩
      · have HM := Mark_out wr _ _ _ v hS (by omega)
        have hv1 : v < 0 := by omega
        go_wp2_with (go_at_call 44; refine HM.mono ?_; rintro e w2 ⟨rfl, rfl⟩)
        exact ⟨⟨j + 1, x, by omega, rfl, ⟨rfl⟩, hS, hD, hO, hB⟩, by simp [intOf]; omega⟩
    · clear hx hr
      go_wp2
      clear hlt h1 hm
      obtain ⟨w2, rfl⟩ : ∃ w2 : World, w2 = wr := ⟨_, rfl⟩
      go_loopw [9, 13] (fun v k' wr => ∃ (j : Nat), j ≤ x.length ∧ k' = .int .i64 j ∧ Aside0 ((Kd.int .i64).R 3 wr w2.heap.size (fun _ => True) v (allTo x j)) ∧ Aside0 (Below w2.heap.size w2 wr)) (fun _ k _ => x.length - (intOf k).toNat)
      case atStart => exact ⟨0, Nat.zero_le _, rfl, ⟨Kd.R_nil _ _ _ _ _⟩, ⟨Below.refl _ _⟩⟩
      case round =>
        obtain ⟨j, hj, rfl, HO, HB⟩ := hrel
        by_cases hlt : j < x.length
        · have hl := allTo_le x j
          have hsu := allTo_succ x j
          have hsz := below_size HB.out
          have hcd := (hD.below HB.out).cell hlt
          cases hxq : x.getD j false
          · rw [hxq] at hcd hsu
            have HS : allTo x (j + 1) = allTo x j := by rw [hsu]; simp
            have HS := Aside0.mk HS
            clear hsu hxq
            go_wp2
            exact ⟨⟨j + 1, by omega, rfl, by rw [HS.out]; exact HO, HB⟩, by simp [intOf]; omega⟩
          · rw [hxq] at hcd hsu
            have HS := Aside0.mk hsu
            clear hsu hxq
            go_wp2_with (at_builtin; refine Kd.R_append (Kd.int .i64) (w0 := w2) w2.heap.size rfl (.tmp 97) (.tmp 99) 55 3 (.int .i64 0) 8 rfl Try.underlying55 info3 rfl (by decide) (by omega) _ (allTo x j) (j : Int) [.int .i64 j] (fun _ => True) (fun _ => False) rfl rfl ?aP (fun _ hk => hk.elim) ?aF ?aO ?aB ?aS ?aL ?_)
            case aP => exact rfl
            case aO => exact HO.out
            case aB => exact HB.out
            case aL => omega
            intro v1 w3 hR hB3 hg3 hat
            have HR := Aside0.mk hR
            have HB3 := Aside0.mk hB3
            clear hR hB3 hg3 hat HO HB
            go_wp2
            exact ⟨⟨j + 1, by omega, rfl, by rw [HS.out]; exact HR, HB3⟩, by simp [intOf]; omega⟩
        · obtain rfl : j = x.length := by omega
          clear hj hlt
          have hle := hS.le
          have hal := allTo_le x x.length
          obtain ⟨Av, cv, rfl⟩ := Kd.R_slice HO.out
          have hS := hS.below HB.out
          have hD := hD.below HB.out
          have hO := hO.below HB.out
          have hVc := (Kd.R_reads' HO.out).2.1
          have hV := (Kd.R_reads' HO.out).2.2
          have HBB := Aside0.mk (below_step hB.out HB.out)
          clear HO HB hB
          have hcn := allTo_cnt x x.length
          have HCN := Aside0.mk hcn
          clear hcn
          by_cases hi : 0 ≤ i ∧ i < x.length
          · obtain ⟨q, rfl⟩ := Int.eq_ofNat_of_zero_le hi.1
            have hq : q < x.length := by omega
            clear hi
            have hH := fun (w : World) (h : IsSet w g b x) => Has_in w g b x q h hq
            have hcd := hD.cell hq
            have hcn := HCN.out
            cases hxq : x.getD q false
            all_goals
              rw [hxq] at hcd hH
              clear hxq
              go_wp2_with (first | (go_at_call 45; (with_reducible refine (hH _ hS).mono ?_); rintro e w4 ⟨rfl, rfl⟩) | (go_at_call 42; (with_reducible refine (Len_any _ _ _ _ hS).mono ?_); rintro e w5 ⟨rfl, rfl⟩) | (go_at_call 47; (with_reducible refine (Count_any _ _ _ _ hS).mono ?_); rintro e w6 ⟨rfl, hd6⟩; have hS6 := hS.drawn hd6; have hD6 := hD.below hd6.below; have hO6 := hO.drawn hd6; have hV6 := Kd.C_below hV hd6.below; clear hS hD hO hV) | (go_at_call 46; (with_reducible refine (Rank_any _ _ _ _ _ hS6).mono ?_); rintro e w7 ⟨rfl, hd7⟩; have hS7 := hS6.drawn hd7; have hD7 := hD6.below hd7.below; have hO7 := hO6.drawn hd7; have hV7 := Kd.C_below hV6 hd7.below; clear hS6 hD6 hO6 hV6) | (go_at_call 56; (with_reducible refine (refRank_any _ _ _ _ _ (hD7.C hle) (Nat.le_refl _) hle).mono ?_); rintro e w8 ⟨rfl, hd8⟩; have hS8 := hS7.drawn hd8; have hD8 := hD7.below hd8.below; have hO8 := hO7.drawn hd8; have hV8 := Kd.C_below hV7 hd8.below; clear hS7 hD7 hO7 hV7) | (go_at_call 40; (with_reducible refine (Bytes_read _ _ _ _ hS8).mono ?_); rintro e w9 ⟨e9, rfl, hb9, hB9⟩; have hS9 := hS8.below hB9; have hD9 := hD8.below hB9; have hO9 := hO8.below hB9; have hV9 := Kd.C_below hV8 hB9; clear hS8 hD8 hO8 hV8) | (go_at_call 41; (with_reducible refine (refBytes_read _ _ _ _ (hD9.C hle) (Nat.le_refl _) hle).mono ?_); rintro e w10 ⟨A10, c10, rfl, hc10, hb10, hB10⟩; have hS10 := hS9.below hB10; have hO10 := hO9.below hB10; have hV10 := Kd.C_below hV9 hB10; have hb9' := Kd.C_below hb9 hB10; clear hS9 hD9 hO9 hV9) | (go_at_call 17; (with_reducible refine (same_true _ _ _ _ _ _ _ (pack x) rfl rfl hb9' (Nat.le_refl _) hb10 hc10 (by rw [pack_len]; omega)).mono ?_); rintro e w11 ⟨rfl, hd11⟩; have hS11 := hS10.drawn hd11; have hO11 := hO10.drawn hd11; have hV11 := Kd.C_below hV10 hd11.below; clear hS10 hO10 hV10) | (go_at_call 58; (with_reducible refine (All_read _ _ _ _ hS11).mono ?_); rintro e w12 ⟨A12, c12, rfl, hc12, hA12, hB12⟩; have hO12 := hO11.below hB12; have hV12 := Kd.C_below hV11 hB12; clear hS11 hO11 hV11) | (go_at_call 57; (with_reducible refine (back_same' _ _ _ _ _ _ _ (allTo x x.length) HCN.out.symm HCN.out.symm hA12 hc12 hV12 hVc (by omega)).mono ?_); rintro e w13 ⟨rfl, hd13⟩; have hO13 := hO12.drawn hd13; clear hO12) | (go_at_call 47; (with_reducible refine (Count_none _ _ _ _ hO13).mono ?_); rintro e w14 ⟨rfl, hd14⟩) | (go_at_call 37; (with_reducible refine (awake_any _).mono ?_); rintro e w15 ⟨rfl, hB15⟩))
              go_ret
              exact ⟨rfl, below_step ((((below_step (((below_step (below_step (((HBB.out.trans_drawn hd6).trans_drawn hd7).trans_drawn hd8) hB9) hB10).trans_drawn hd11)) hB12).trans_drawn hd13).trans_drawn hd14)) hB15⟩
          · have hH := fun (w : World) (h : IsSet w g b x) => Has_out w g b x i h hi
            have hcn := HCN.out
            by_cases hi0 : 0 ≤ i
            · have hi1 : (x.length : Int) ≤ i := by omega
              clear hi
              go_wp2_with (first | (go_at_call 45; (with_reducible refine (hH _ hS).mono ?_); rintro e w4 ⟨rfl, rfl⟩) | (go_at_call 42; (with_reducible refine (Len_any _ _ _ _ hS).mono ?_); rintro e w5 ⟨rfl, rfl⟩) | (go_at_call 47; (with_reducible refine (Count_any _ _ _ _ hS).mono ?_); rintro e w6 ⟨rfl, hd6⟩; have hS6 := hS.drawn hd6; have hD6 := hD.below hd6.below; have hO6 := hO.drawn hd6; have hV6 := Kd.C_below hV hd6.below; clear hS hD hO hV) | (go_at_call 46; (with_reducible refine (Rank_any _ _ _ _ _ hS6).mono ?_); rintro e w7 ⟨rfl, hd7⟩; have hS7 := hS6.drawn hd7; have hD7 := hD6.below hd7.below; have hO7 := hO6.drawn hd7; have hV7 := Kd.C_below hV6 hd7.below; clear hS6 hD6 hO6 hV6) | (go_at_call 56; (with_reducible refine (refRank_any _ _ _ _ _ (hD7.C hle) (Nat.le_refl _) hle).mono ?_); rintro e w8 ⟨rfl, hd8⟩; have hS8 := hS7.drawn hd8; have hD8 := hD7.below hd8.below; have hO8 := hO7.drawn hd8; have hV8 := Kd.C_below hV7 hd8.below; clear hS7 hD7 hO7 hV7) | (go_at_call 40; (with_reducible refine (Bytes_read _ _ _ _ hS8).mono ?_); rintro e w9 ⟨e9, rfl, hb9, hB9⟩; have hS9 := hS8.below hB9; have hD9 := hD8.below hB9; have hO9 := hO8.below hB9; have hV9 := Kd.C_below hV8 hB9; clear hS8 hD8 hO8 hV8) | (go_at_call 41; (with_reducible refine (refBytes_read _ _ _ _ (hD9.C hle) (Nat.le_refl _) hle).mono ?_); rintro e w10 ⟨A10, c10, rfl, hc10, hb10, hB10⟩; have hS10 := hS9.below hB10; have hO10 := hO9.below hB10; have hV10 := Kd.C_below hV9 hB10; have hb9' := Kd.C_below hb9 hB10; clear hS9 hD9 hO9 hV9) | (go_at_call 17; (with_reducible refine (same_true _ _ _ _ _ _ _ (pack x) rfl rfl hb9' (Nat.le_refl _) hb10 hc10 (by rw [pack_len]; omega)).mono ?_); rintro e w11 ⟨rfl, hd11⟩; have hS11 := hS10.drawn hd11; have hO11 := hO10.drawn hd11; have hV11 := Kd.C_below hV10 hd11.below; clear hS10 hO10 hV10) | (go_at_call 58; (with_reducible refine (All_read _ _ _ _ hS11).mono ?_); rintro e w12 ⟨A12, c12, rfl, hc12, hA12, hB12⟩; have hO12 := hO11.below hB12; have hV12 := Kd.C_below hV11 hB12; clear hS11 hO11 hV11) | (go_at_call 57; (with_reducible refine (back_same' _ _ _ _ _ _ _ (allTo x x.length) HCN.out.symm HCN.out.symm hA12 hc12 hV12 hVc (by omega)).mono ?_); rintro e w13 ⟨rfl, hd13⟩; have hO13 := hO12.drawn hd13; clear hO12) | (go_at_call 47; (with_reducible refine (Count_none _ _ _ _ hO13).mono ?_); rintro e w14 ⟨rfl, hd14⟩) | (go_at_call 37; (with_reducible refine (awake_any _).mono ?_); rintro e w15 ⟨rfl, hB15⟩))
              go_ret
              exact ⟨rfl, below_step ((((below_step (((below_step (below_step (((HBB.out.trans_drawn hd6).trans_drawn hd7).trans_drawn hd8) hB9) hB10).trans_drawn hd11)) hB12).trans_drawn hd13).trans_drawn hd14)) hB15⟩
            · have hi1 : i < 0 := by omega
              clear hi
              go_wp2_with (first | (go_at_call 45; (with_reducible refine (hH _ hS).mono ?_); rintro e w4 ⟨rfl, rfl⟩) | (go_at_call 42; (with_reducible refine (Len_any _ _ _ _ hS).mono ?_); rintro e w5 ⟨rfl, rfl⟩) | (go_at_call 47; (with_reducible refine (Count_any _ _ _ _ hS).mono ?_); rintro e w6 ⟨rfl, hd6⟩; have hS6 := hS.drawn hd6; have hD6 := hD.below hd6.below; have hO6 := hO.drawn hd6; have hV6 := Kd.C_below hV hd6.below; clear hS hD hO hV) | (go_at_call 46; (with_reducible refine (Rank_any _ _ _ _ _ hS6).mono ?_); rintro e w7 ⟨rfl, hd7⟩; have hS7 := hS6.drawn hd7; have hD7 := hD6.below hd7.below; have hO7 := hO6.drawn hd7; have hV7 := Kd.C_below hV6 hd7.below; clear hS6 hD6 hO6 hV6) | (go_at_call 56; (with_reducible refine (refRank_any _ _ _ _ _ (hD7.C hle) (Nat.le_refl _) hle).mono ?_); rintro e w8 ⟨rfl, hd8⟩; have hS8 := hS7.drawn hd8; have hD8 := hD7.below hd8.below; have hO8 := hO7.drawn hd8; have hV8 := Kd.C_below hV7 hd8.below; clear hS7 hD7 hO7 hV7) | (go_at_call 40; (with_reducible refine (Bytes_read _ _ _ _ hS8).mono ?_); rintro e w9 ⟨e9, rfl, hb9, hB9⟩; have hS9 := hS8.below hB9; have hD9 := hD8.below hB9; have hO9 := hO8.below hB9; have hV9 := Kd.C_below hV8 hB9; clear hS8 hD8 hO8 hV8) | (go_at_call 41; (with_reducible refine (refBytes_read _ _ _ _ (hD9.C hle) (Nat.le_refl _) hle).mono ?_); rintro e w10 ⟨A10, c10, rfl, hc10, hb10, hB10⟩; have hS10 := hS9.below hB10; have hO10 := hO9.below hB10; have hV10 := Kd.C_below hV9 hB10; have hb9' := Kd.C_below hb9 hB10; clear hS9 hD9 hO9 hV9) | (go_at_call 17; (with_reducible refine (same_true _ _ _ _ _ _ _ (pack x) rfl rfl hb9' (Nat.le_refl _) hb10 hc10 (by rw [pack_len]; omega)).mono ?_); rintro e w11 ⟨rfl, hd11⟩; have hS11 := hS10.drawn hd11; have hO11 := hO10.drawn hd11; have hV11 := Kd.C_below hV10 hd11.below; clear hS10 hO10 hV10) | (go_at_call 58; (with_reducible refine (All_read _ _ _ _ hS11).mono ?_); rintro e w12 ⟨A12, c12, rfl, hc12, hA12, hB12⟩; have hO12 := hO11.below hB12; have hV12 := Kd.C_below hV11 hB12; clear hS11 hO11 hV11) | (go_at_call 57; (with_reducible refine (back_same' _ _ _ _ _ _ _ (allTo x x.length) HCN.out.symm HCN.out.symm hA12 hc12 hV12 hVc (by omega)).mono ?_); rintro e w13 ⟨rfl, hd13⟩; have hO13 := hO12.drawn hd13; clear hO12) | (go_at_call 47; (with_reducible refine (Count_none _ _ _ _ hO13).mono ?_); rintro e w14 ⟨rfl, hd14⟩) | (go_at_call 37; (with_reducible refine (awake_any _).mono ?_); rintro e w15 ⟨rfl, hB15⟩))
              go_ret
              exact ⟨rfl, below_step ((((below_step (((below_step (below_step (((HBB.out.trans_drawn hd6).trans_drawn hd7).trans_drawn hd8) hB9) hB10).trans_drawn hd11)) hB12).trans_drawn hd13).trans_drawn hd14)) hB15⟩
theorem plays_row (a0 : Int) (a1 : Option Addr) (len1 cap1 : Nat) (z1 : List Int) (a2 : Int) (w : World) (w0 : (Lit.int .i64 a0).wf = true)
    (w1 : (a1 = none ∧ len1 = 0 ∧ cap1 = 0 ∧ z1 = []) ∨ ∃ x, a1 = some x ∧ len1 ≤ cap1 ∧ cap1 ≤ maxLen ∧ z1.length = cap1 ∧ (∀ i, i < z1.length → w.cell? (x.add i) = some (.int .i64 (z1.getD i 0))) ∧ ∀ n ∈ z1, (Lit.int .i64 n).wf = true) (y1 : len1 * 8 ≤ 140737488351232) (w2 : (Lit.int .i64 a2).wf = true) :
    Calls Try.prog 12 #[.int .i64 a0, .slice a1 len1 cap1, .int .i64 a2] w fun e w' => e = .returned (.bool true) ∧ Below w.heap.size w w' := by
  obtain ⟨l1, rfl, hr1, hm1, hw1, hc1⟩ := ReadsInt.ofRowC w1
  exact plays_walk a0 a1 l1 cap1 a2 w (Kd.C_of_reads (d := (0 : Int)) (h1 := fun _ => rfl) hr1) hm1
end Go.Proofs.Ytbjnfephigcdkaa.Bits
