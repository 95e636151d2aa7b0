/- estreatlaw07.BitmapReads hands back true, for every input. -/
import Derived.Test.YtbjnfephigcdkaaSetRefRead
namespace Go.Proofs.Ytbjnfephigcdkaa.Bits
open Go.RowKit Go.Proofs.YtbjnfephigcdkaaW.PrintWords Go.Proofs.YtbjnfephigcdkaaW.PrintLast Go.Proofs.YtbjnfephigcdkaaW.PrintMore Go.Proofs.Ytbjnfephigcdkaa.PBitmapPlays
attribute [local go_sem] max2_int min2_int max_two min_two max_three min_three max_four min_four
set_option linter.unusedVariables false
set_option linter.unusedSimpArgs false
/-- A row of bytes, whatever they are. -/
def Row (W : World) (g m : Nat) : Prop := ∃ cur, W.heap[g]? = some (.cells cur 5 (0, 0)) ∧ ∀ j, j < m → ∃ v, 0 ≤ v ∧ v < 256 ∧ cur[j]? = some (.int .u8 v)
theorem Row.cell {W : World} {g m : Nat} (h : Row W g m) {j : Nat} (hj : j < m) : ∃ v, 0 ≤ v ∧ v < 256 ∧ W.cell? ⟨g, j, none⟩ = some (.int .u8 v) ∧ W.frozen? ⟨g, j, none⟩ = false := by
  obtain ⟨cur, hc, hv⟩ := h
  obtain ⟨v, h0, h1, h2⟩ := hv j hj
  exact ⟨v, h0, h1, by rw [blk_cell hc j, h2], blk_frozen hc j⟩
theorem Row.set {W : World} {g m : Nat} (h : Row W g m) (j : Nat) {v : Int} (h0 : 0 ≤ v) (h1 : v < 256) : Row (W.setCell ⟨g, j, none⟩ (.int .u8 v)) g m := by
  obtain ⟨cur, hc, hv⟩ := h
  refine ⟨_, blk_set hc j _, fun i hi => ?_⟩
  by_cases e : j = i
  · subst e
    obtain ⟨u, _, _, h2⟩ := hv j hi
    have hlt : j < cur.size := by
      apply Classical.byContradiction
      intro hn
      rw [Array.getElem?_eq_none (by omega)] at h2
      cases h2
    exact ⟨v, h0, h1, by simp [hlt]⟩
  · obtain ⟨u, h3, h4, h5⟩ := hv i hi
    exact ⟨u, h3, h4, by rw [Array.getElem?_setIfInBounds_ne e, h5]⟩
theorem R_open {W : World} {base : Nat} {ok : Nat → Prop} {v : Value} {l : List Int} (h : (Kd.int .u8).R 5 W base ok v l) (hw : ∀ v ∈ l, 0 ≤ v ∧ v < 256) :
    ∃ A c, v = .slice A l.length c ∧ l.length ≤ c ∧ (Kd.int .u8).C W A l.length l ∧ (0 < l.length → ∃ g, A = some ⟨g, 0, none⟩ ∧ base ≤ g ∧ g < W.heap.size ∧ Row W g l.length) := by
  obtain ⟨A, c, rfl⟩ := Kd.R_slice h
  obtain ⟨_, hc, hC⟩ := Kd.R_reads' h
  refine ⟨A, c, rfl, hc, hC, fun hpos => ?_⟩
  obtain ⟨inner, hin⟩ := Kd.R_own h
  obtain ⟨_, h2⟩ := hin
  rcases h2 with ⟨_, h2⟩ | ⟨g, cap, cur, he, hg, hh, hle, _, hsz, _⟩
  · omega
  · injection he with he1 _ he3
    subst he1
    obtain ⟨ad, hA, hcell⟩ := C_cells hC hpos
    injection hA with hA
    subst hA
    refine ⟨g, rfl, hg, blk_lt hh, cur, hh, fun j hj => ?_⟩
    have h4 := hcell j hj
    rw [show (Addr.add ⟨g, 0, none⟩ j) = ⟨g, j, none⟩ from by by_cases h0 : j = 0 <;> simp [Addr.add, h0], blk_cell hh j] at h4
    exact ⟨_, (hw (l.getD j 0) (by simp [List.getD, hj])).1, (hw (l.getD j 0) (by simp [List.getD, hj])).2, h4⟩
theorem Row.below {W W' : World} {g m : Nat} (h : Row W g m) (hb : Below W.heap.size W W') : Row W' g m := by
  obtain ⟨cur, hc, hv⟩ := h
  exact ⟨cur, blk_below hc hb, hv⟩
theorem Read_zero2 (W : World) (A : Option Addr) (l : List Int) (c : Nat) (n : Int) (hr : (Kd.int .u8).C W A l.length l) (hw : ∀ v ∈ l, 0 ≤ v ∧ v < 256) (he : readErr l n = 0) : Calls Try.prog 38 #[.slice A l.length c, .int .i64 n] W fun e w' => ∃ g b, e = .returned (.tuple #[.pointer (some ⟨g, 0, none⟩), .int .i64 0]) ∧ IsSet w' g b (unp l n.toNat) ∧ W.heap.size ≤ g ∧ W.heap.size ≤ b ∧ Below W.heap.size W w' := by
  refine (Read_any W A l c n hr hw).mono ?_
  intro e w' h
  unfold ReadPost at h
  rw [if_pos he] at h
  obtain ⟨g, b, rfl, hS, _, _, _, h1, h2, hB⟩ := h
  exact ⟨g, b, rfl, hS, h1, h2, hB⟩
theorem readErr_range (l : List Int) (n : Int) (he : readErr l n = 0) : 0 ≤ n ∧ n ≤ 65536 := by
  unfold readErr at he
  by_cases h : n < 0 ∨ 65536 < n
  · rw [if_pos h] at he; cases he
  · omega
theorem Len_eq (W : World) (g b : Nat) (x : List Bool) (n : Int) (h : IsSet W g b x) (hn : (x.length : Int) = n) : Calls Try.prog 42 #[.pointer (some ⟨g, 0, none⟩)] W fun e w' => e = .returned (.int .i64 n) ∧ W = w' := by
  subst hn
  exact Len_any W g b x h
theorem rRead_zero (W : World) (A : Option Addr) (c : Nat) (l : List Int) (n : Int) (hr : (Kd.int .u8).C W A l.length l) (hc : l.length ≤ c) (hw : ∀ v ∈ l, 0 ≤ v ∧ v < 256) (he : readErr l n = 0) :
    Calls Try.prog 39 #[.slice A l.length c, .int .i64 n] W fun e w' => ∃ A' c', e = .returned (.tuple #[.slice A' (unp l n.toNat).length c', .int .i64 0]) ∧ (unp l n.toNat).length ≤ c' ∧ Kd.bool.C w' A' (unp l n.toNat).length (unp l n.toNat) ∧ Below W.heap.size W w' := by
  have h := rRead_any W A c l n hr hc hw
  have e : readMarks l n = unp l n.toNat := by unfold readMarks; rw [if_pos he]
  rw [e, he] at h
  exact h
theorem rRead_else (W : World) (A : Option Addr) (c : Nat) (l : List Int) (n ev : Int) (hr : (Kd.int .u8).C W A l.length l) (hc : l.length ≤ c) (hw : ∀ v ∈ l, 0 ≤ v ∧ v < 256) (hev : readErr l n = ev) (he : ¬ ev = 0) :
    Calls Try.prog 39 #[.slice A l.length c, .int .i64 n] W fun e w' => ∃ A' c', e = .returned (.tuple #[.slice A' 0 c', .int .i64 ev]) ∧ Below W.heap.size W w' := by
  subst hev
  have h := rRead_any W A c l n hr hc hw
  have e : readMarks l n = [] := by unfold readMarks; rw [if_neg he]
  rw [e] at h
  exact h.mono (fun e w' ⟨A', c', h1, _, _, h2⟩ => ⟨A', c', h1, h2⟩)
set_option maxHeartbeats 8000000 in
set_option maxRecDepth 100000 in
theorem reads_ok (A : Option Addr) (l : List Int) (c : Nat) (n : Int) (W : World) (hr : (Kd.int .u8).C W A l.length l) (hc : l.length ≤ c) (hm : l.length ≤ maxLen) (hw : ∀ v ∈ l, 0 ≤ v ∧ v < 256) (he : readErr l n = 0) :
    Calls Try.prog 8 #[.slice A l.length c, .int .i64 n] W fun e w' => e = .returned (.bool true) ∧ Below W.heap.size W w' := by
  unfold maxLen at hm
  by_cases h1 : (500 : Int) < (l.length : Int)
  · go_enter Try.func8, Try.ntmps8
    go_wp2_with (go_at_call 37; refine (awake_any _).mono ?_; rintro e w1 ⟨rfl, hB⟩)
    go_ret
    exact ⟨rfl, hB⟩
  have hle : l.length ≤ 500 := by omega
  go_enter Try.func8, Try.ntmps8
  go_wp2_with (first | ((with_reducible refine gate_dst (N := 15) rfl ?_); refine Kd.R_lit (Kd.int .u8) W.heap.size 5 ?hg (N := 15) ?hd (xs := ([] : List Int)) (inner := []) (ok := fun _ => True) (okp := fun _ => True) ?hr ?hp (fun _ hk => hk) trivial (Below.refl _ _) (Nat.le_refl _) (by simp) ?_; (case hd => rfl); (case hg => rfl); (case hr => first | (go_simp; done) | (go_simp; rfl)); (case hp => exact (Reps.none _ _)); intro v15 w15 ho15 hb15 hg15 hn15) | ((with_reducible refine gate_builtin (b := .append) (xs := #[.tmp 15, .tmp 16]) rfl ?_); at_builtin; refine Kd.R_append_rows (Kd.int .u8) (w0 := W) W.heap.size rfl (.tmp 15) (.tmp 16) 22 5 (.int .u8 0) 1 rfl Try.underlying22 info5 rfl (by decide) (by omega) v15 ([] : List Int) l _ _ _ (fun _ => True) (fun _ => False) rfl rfl ?aO ?aR (fun _ _ h => h) (fun _ h => h.elim) ?aF ?aB ?aS ?aL ?_; (case aO => exact ho15); (case aR => exact Kd.C_below hr hb15); (case aF => exact fun _ _ => trivial); (case aB => exact hb15); (case aS => exact below_size hb15); (case aL => simp only [List.length_nil]; omega); intro v17 w17 ho17 hb17 hg17 hn17; rw [List.nil_append] at ho17; obtain ⟨A1, c1, rfl, hc1, hC1, hrow⟩ := R_open ho17 hw; clear ho17 hg17 hn17 ho15 hb15 hg15 hn15) | (go_at_call 38; (with_reducible refine (Read_zero2 _ _ _ _ n hC1 hw he).mono ?_); rintro e w3 ⟨g3, b3, rfl, hU, hg3, hb3, hB3⟩; have hBB := Aside0.mk (below_step hb17 hB3); have hrow3 : 0 < l.length → ∃ g, A1 = some ⟨g, 0, none⟩ ∧ W.heap.size ≤ g ∧ g < w17.heap.size ∧ Row w3 g l.length := (fun hpos => by obtain ⟨g, e1, e2, e3, e4⟩ := hrow hpos; exact ⟨g, e1, e2, e3, e4.below hB3⟩); clear hrow hC1 hb17 hB3))
  obtain ⟨G, hG⟩ : ∃ G, 0 < l.length → A1 = some ⟨G, 0, none⟩ ∧ W.heap.size ≤ G ∧ G < w17.heap.size ∧ Row w3 G l.length := by
    by_cases hpos : 0 < l.length
    · obtain ⟨G, h⟩ := hrow3 hpos
      exact ⟨G, fun _ => h⟩
    · exact ⟨0, fun h => absurd h hpos⟩
  clear hrow3
  go_loopw [8] (fun k wr => ∃ j : Nat, j ≤ l.length ∧ k = .int .i64 j ∧ Aside0 (0 < l.length → Row wr G l.length) ∧ Aside0 (∀ k, w17.heap.size ≤ k → wr.heap[k]? = w3.heap[k]?) ∧ Aside0 (Below W.heap.size W wr)) (fun k _ => l.length - (intOf k).toNat)
  case atStart => exact ⟨0, Nat.zero_le _, rfl, ⟨fun h => (hG h).2.2.2⟩, ⟨fun _ _ => rfl⟩, hBB⟩
  case round =>
    clear hBB
    obtain ⟨j, hj, rfl, hR, hK, hB⟩ := hrel
    by_cases hlt : j < l.length
    · obtain ⟨hA1, hG1, hG2, _⟩ := hG (by omega)
      have hR1 := hR.out (by omega)
      obtain ⟨v, hv0, hv1, hcell, hfr⟩ := hR1.cell hlt
      clear hG
      subst hA1
      go_wp2
      exact ⟨⟨j + 1, by omega, rfl, ⟨fun _ => hR1.set j (by omega) (by omega)⟩, ⟨fun k hk => (Below.heap_setCell wr ⟨G, j, none⟩ _ k (by show k ≠ G; omega)).trans (hK.out k hk)⟩, ⟨hB.out.setCell (p := ⟨G, j, none⟩) hG1 _⟩⟩, by simp [intOf]; omega⟩
    · have hS := hU.same (hK.out g3 hg3) (hK.out b3 hb3)
      have hn0 : ((unp l n.toNat).length : Int) = n := by
        rw [unp_len]
        have := readErr_range l n he
        omega
      have HN := Aside0.mk hn0
      have hle := hS.le
      have hr' := Kd.C_below hr hB.out
      have e2 : ∀ w, (binOp BinOp.neq 45 (.pointer (some ⟨g3, 0, none⟩)) (.pointer none)).run Try.prog w = .ok (.bool true) w := fun w => by kernel_rfl
      clear hn0 hG hR hK hg3 hb3 hU hr
      go_wp2_with (first | (go_at_call 39; (with_reducible refine (rRead_zero _ _ _ _ _ hr' hc hw he).mono ?_); rintro e w4 ⟨A4, c4, rfl, hc4, hC4, hB4⟩; have hS4 := hS.below hB4; clear hS) | (go_at_call 40; (with_reducible refine (Bytes_read _ _ _ _ hS4).mono ?_); rintro e w5 ⟨d5, rfl, hd5, hB5⟩; have hS5 := hS4.below hB5; have hC5 := Kd.C_below hC4 hB5; clear hS4 hC4) | (go_at_call 41; (with_reducible refine (refBytes_read _ _ _ _ hC5 hc4 hle).mono ?_); rintro e w6 ⟨A6, c6, rfl, hc6, hC6, hB6⟩; have hS6 := hS5.below hB6; have hd6 := Kd.C_below hd5 hB6; clear hS5 hC5 hd5) | (go_at_call 17; (with_reducible refine (same_true _ _ _ _ _ _ _ (pack (unp l n.toNat)) rfl rfl hd6 (Nat.le_refl _) hC6 hc6 (by rw [pack_len]; omega)).mono ?_); rintro e w7 ⟨rfl, hd7⟩; have hS7 := hS6.drawn hd7; clear hS6) | (go_at_call 42; (with_reducible refine (Len_eq _ _ _ _ _ hS7 HN.out).mono ?_); rintro e w8 ⟨rfl, rfl⟩) | (go_at_call 37; refine (awake_any _).mono ?_; rintro e w9 ⟨rfl, hB9⟩))
      go_ret
      exact ⟨rfl, below_step ((below_step (below_step (below_step hB.out hB4) hB5) hB6).trans_drawn hd7) hB9⟩
set_option maxHeartbeats 8000000 in
set_option maxRecDepth 100000 in
theorem reads_else (A : Option Addr) (l : List Int) (c : Nat) (n : Int) (W : World) (hr : (Kd.int .u8).C W A l.length l) (hc : l.length ≤ c) (hm : l.length ≤ maxLen) (hw : ∀ v ∈ l, 0 ≤ v ∧ v < 256) (he : readErr l n ≠ 0) :
    Calls Try.prog 8 #[.slice A l.length c, .int .i64 n] W fun e w' => e = .returned (.bool true) ∧ Below W.heap.size W w' := by
  unfold maxLen at hm
  by_cases h1 : (500 : Int) < (l.length : Int)
  · go_enter Try.func8, Try.ntmps8
    go_wp2_with (go_at_call 37; refine (awake_any _).mono ?_; rintro e w1 ⟨rfl, hB⟩)
    go_ret
    exact ⟨rfl, hB⟩
  have hle : l.length ≤ 500 := by omega
  generalize hev : readErr l n = ev at *
  have HEV := Aside0.mk hev
  clear hev
  go_enter Try.func8, Try.ntmps8
  go_wp2_with (first | ((with_reducible refine gate_dst (N := 15) rfl ?_); refine Kd.R_lit (Kd.int .u8) W.heap.size 5 ?hg (N := 15) ?hd (xs := ([] : List Int)) (inner := []) (ok := fun _ => True) (okp := fun _ => True) ?hr ?hp (fun _ hk => hk) trivial (Below.refl _ _) (Nat.le_refl _) (by simp) ?_; (case hd => rfl); (case hg => rfl); (case hr => first | (go_simp; done) | (go_simp; rfl)); (case hp => exact (Reps.none _ _)); intro v15 w15 ho15 hb15 hg15 hn15) | ((with_reducible refine gate_builtin (b := .append) (xs := #[.tmp 15, .tmp 16]) rfl ?_); at_builtin; refine Kd.R_append_rows (Kd.int .u8) (w0 := W) W.heap.size rfl (.tmp 15) (.tmp 16) 22 5 (.int .u8 0) 1 rfl Try.underlying22 info5 rfl (by decide) (by omega) v15 ([] : List Int) l _ _ _ (fun _ => True) (fun _ => False) rfl rfl ?aO ?aR (fun _ _ h => h) (fun _ h => h.elim) ?aF ?aB ?aS ?aL ?_; (case aO => exact ho15); (case aR => exact Kd.C_below hr hb15); (case aF => exact fun _ _ => trivial); (case aB => exact hb15); (case aS => exact below_size hb15); (case aL => simp only [List.length_nil]; omega); intro v17 w17 ho17 hb17 hg17 hn17; rw [List.nil_append] at ho17; obtain ⟨A1, c1, rfl, hc1, hC1, hrow⟩ := R_open ho17 hw; clear ho17 hg17 hn17 ho15 hb15 hg15 hn15) | (go_at_call 38; (with_reducible refine (Read_else' _ _ _ _ n ev hC1 hw HEV.out he).mono ?_); rintro e w3 ⟨rfl, hB3⟩; have hBB := Aside0.mk (below_step hb17 hB3); have hrow3 : 0 < l.length → ∃ g, A1 = some ⟨g, 0, none⟩ ∧ W.heap.size ≤ g ∧ g < w17.heap.size ∧ Row w3 g l.length := (fun hpos => by obtain ⟨g, e1, e2, e3, e4⟩ := hrow hpos; exact ⟨g, e1, e2, e3, e4.below hB3⟩); clear hrow hC1 hb17 hB3))
  obtain ⟨G, hG⟩ : ∃ G, 0 < l.length → A1 = some ⟨G, 0, none⟩ ∧ W.heap.size ≤ G ∧ G < w17.heap.size ∧ Row w3 G l.length := by
    by_cases hpos : 0 < l.length
    · obtain ⟨G, h⟩ := hrow3 hpos
      exact ⟨G, fun _ => h⟩
    · exact ⟨0, fun h => absurd h hpos⟩
  clear hrow3
  go_loopw [8] (fun k wr => ∃ j : Nat, j ≤ l.length ∧ k = .int .i64 j ∧ Aside0 (0 < l.length → Row wr G l.length) ∧ Aside0 (∀ k, w17.heap.size ≤ k → wr.heap[k]? = w3.heap[k]?) ∧ Aside0 (Below W.heap.size W wr)) (fun k _ => l.length - (intOf k).toNat)
  case atStart => exact ⟨0, Nat.zero_le _, rfl, ⟨fun h => (hG h).2.2.2⟩, ⟨fun _ _ => rfl⟩, hBB⟩
  case round =>
    clear hBB
    obtain ⟨j, hj, rfl, hR, hK, hB⟩ := hrel
    by_cases hlt : j < l.length
    · obtain ⟨hA1, hG1, hG2, _⟩ := hG (by omega)
      have hR1 := hR.out (by omega)
      obtain ⟨v, hv0, hv1, hcell, hfr⟩ := hR1.cell hlt
      clear hG
      subst hA1
      go_wp2
      exact ⟨⟨j + 1, by omega, rfl, ⟨fun _ => hR1.set j (by omega) (by omega)⟩, ⟨fun k hk => (Below.heap_setCell wr ⟨G, j, none⟩ _ k (by show k ≠ G; omega)).trans (hK.out k hk)⟩, ⟨hB.out.setCell (p := ⟨G, j, none⟩) hG1 _⟩⟩, by simp [intOf]; omega⟩
    · have hr' := Kd.C_below hr hB.out
      have he2 : (ev == 0) = false := by rw [beq_eq_false_iff_ne]; exact he
      have he3 : (ev != 0) = true := by rw [bne_iff_ne]; exact he
      clear hG hR hK hr
      go_wp2_with (first | (go_at_call 39; (with_reducible refine (rRead_else _ _ _ _ _ _ hr' hc hw HEV.out he).mono ?_); rintro e w4 ⟨A4, c4, rfl, hB4⟩) | (go_at_call 37; refine (awake_any _).mono ?_; rintro e w9 ⟨rfl, hB9⟩))
      go_ret
      exact ⟨rfl, below_step (below_step hB.out hB4) hB9⟩
theorem reads_row (a0 : Option Addr) (len0 cap0 : Nat) (z0 : List Int) (a1 : Int) (w : World)
    (w0 : (a0 = none ∧ len0 = 0 ∧ cap0 = 0 ∧ z0 = []) ∨ ∃ x, a0 = some x ∧ len0 ≤ cap0 ∧ cap0 ≤ maxLen ∧ z0.length = cap0 ∧ (∀ i, i < z0.length → w.cell? (x.add i) = some (.int .u8 (z0.getD i 0))) ∧ ∀ n ∈ z0, (Lit.int .u8 n).wf = true) (y0 : len0 * 1 ≤ 140737488351232) (w1 : (Lit.int .i64 a1).wf = true) :
    Calls Try.prog 8 #[.slice a0 len0 cap0, .int .i64 a1] w fun e w' => e = .returned (.bool true) ∧ Below w.heap.size w w' := by
  obtain ⟨l0, rfl, hr0, hm0, hw0, hc0⟩ := ReadsInt.ofRowC w0
  have hw : ∀ v ∈ l0, 0 ≤ v ∧ v < 256 := fun v hv => by have := hw0 v hv; simp [Lit.wf, IntKind.min, IntKind.max, IntKind.signed, IntKind.bits] at this; omega
  by_cases he : readErr l0 a1 = 0
  · exact reads_ok a0 l0 cap0 a1 w (Kd.C_of_reads (d := (0 : Int)) (h1 := fun _ => rfl) hr0) hc0 hm0 hw he
  · exact reads_else a0 l0 cap0 a1 w (Kd.C_of_reads (d := (0 : Int)) (h1 := fun _ => rfl) hr0) hc0 hm0 hw he
end Go.Proofs.Ytbjnfephigcdkaa.Bits
