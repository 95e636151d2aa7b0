/- estreatlaw01.NumPuts hands back true, for every input. -/
import Derived.Test.YtbjnfephigcdkaaPutsWalk
namespace Go.Proofs.Ytbjnfephigcdkaa.Puts
open Go.RowKit Go.Proofs.Ytbjnfephigcdkaa.PNumPuts Go.Proofs.Ytbjnfephigcdkaa.Pure Go.Proofs.YtbjnfephigcdkaaW.PrintWords Go.Proofs.YtbjnfephigcdkaaW.PrintLast Go.Proofs.YtbjnfephigcdkaaW.PrintMore
attribute [local go_sem] max2_int min2_int max_two min_two max_three min_three max_four min_four
set_option linter.unusedVariables false
set_option linter.unusedSimpArgs false
theorem drawn_below {B : Nat} {w0 w w' : World} (h : Below B w0 w) (hd : Drawn0 w w') : Below B w0 w' := by
  obtain ⟨n, rfl⟩ := hd.out
  exact pw_below_drewN h n
theorem R_read {W : World} {B : Nat} {ok : Nat → Prop} {v : Value} {l : List Int} (h : (Kd.int .u8).R 5 W B ok v l) : ∃ A c, v = .slice A l.length c ∧ l.length ≤ c ∧ (Kd.int .u8).C W A l.length l := by
  obtain ⟨A, c, rfl⟩ := Kd.R_slice h
  obtain ⟨_, hc, hC⟩ := Kd.R_reads' h
  exact ⟨A, c, rfl, hc, hC⟩
theorem R_pre {W : World} {B : Nat} {ok : Nat → Prop} {v : Value} {l : List Int} (h : (Kd.int .u8).R 5 W B ok v l) (hne : ∃ b, v.ownBlock = some b) : ∃ g cap, v = .slice (some ⟨g, 0, none⟩) l.length cap ∧ l.length ≤ cap ∧ cap ≤ maxLen ∧ B ≤ g ∧ Pre W g cap l := by
  obtain ⟨A, c, rfl, hc, hC⟩ := R_read h
  obtain ⟨inner, hin⟩ := Kd.R_own h
  obtain ⟨_, h2⟩ := hin
  rcases h2 with ⟨h2, _⟩ | ⟨g, cap, cur, he, hg, hh, hle, hmx, hsz, _⟩
  · obtain ⟨b, hb⟩ := hne
    rw [h2] at hb
    cases hb
  · injection he with he1 _ he3
    subst he1 he3
    refine ⟨g, c, rfl, hle, hmx, hg, cur, hh, by rw [hsz]; exact Nat.mul_one _, ?_⟩
    apply List.ext_getElem?
    intro j
    by_cases hj : j < l.length
    · obtain ⟨ad, hA, hcell⟩ := C_cellsP hC (by omega)
      injection hA with hA
      subst hA
      have h4 := hcell j hj
      rw [add0, blk_cell hh j] at h4
      rw [List.getElem?_take, if_pos hj, Array.getElem?_toList, h4]
      simp [List.getD, hj]
    · rw [List.getElem?_take, if_neg hj, List.getElem?_eq_none (by simp; omega)]
theorem Pre.below {w w' : World} {g cap : Nat} {xs : List Int} (h : Pre w g cap xs) (hb : Below w.heap.size w w') : Pre w' g cap xs := h.same (hb.block g h.lt)
theorem Ext.below {B : Nat} {w0 W w : World} {g cap : Nat} {xs out : List Int} {v : Value} (h : Ext W w g cap xs v out) (hB : Below B w0 W) (hg : B ≤ g) (hs : B ≤ W.heap.size) : Below B w0 w :=
  ⟨h.grown.os.trans hB.os, h.grown.tape.trans hB.tape, h.grown.output.trans hB.output, Nat.le_trans hB.size h.grown.size, fun k hk => (h.grown.block k (by omega) (by simp; omega)).trans (hB.block k hk)⟩
/-- The closure puts the first row ahead. -/
theorem info5' : (Try.prog.info? 5).map (fun i => (i.zero, i.size, i.bytes)) = some (some (.int .u8 0), 1, 1) := by kernel_rfl
set_option maxHeartbeats 4000000 in
theorem front_any (W : World) (B : Nat) (A0 : Option Addr) (l : List Int) (c0 : Nat) (A1 : Option Addr) (x : List Int) (c1 : Nat) (hbox : W.cell? ⟨B, 0, none⟩ = some (.slice A0 l.length c0)) (hr0 : (Kd.int .u8).C W A0 l.length l) (hr1 : (Kd.int .u8).C W A1 x.length x) (hl : l.length ≤ 1000) (hx : x.length ≤ 2000) :
    Calls Try.prog 16 #[.slice A1 x.length c1, .pointer (some ⟨B, 0, none⟩)] W fun e w' => ∃ A c, e = .returned (.slice A (l ++ x).length c) ∧ (l ++ x).length ≤ c ∧ (Kd.int .u8).C w' A (l ++ x).length (l ++ x) ∧ Below W.heap.size W w' := by
  have hfz : B < W.heap.size := by
    apply Classical.byContradiction
    intro hn
    have : W.heap[B]? = none := by simp; omega
    simp [World.cell?, this] at hbox
  go_enter Try.func16, Try.ntmps16
  go_wp2_with (first | ((with_reducible refine gate_dst (N := 4) rfl ?_); refine Kd.R_lit (Kd.int .u8) W.heap.size 5 ?hg (N := 4) ?hd (xs := ([] : List Int)) (inner := []) (ok := fun _ => True) (okp := fun _ => True) ?hr ?hp (fun _ hk => hk) trivial (Below.refl _ _) (Nat.le_refl _) (by simp) ?_; (case hd => rfl); (case hg => rfl); (case hr => first | (go_simp; done) | (go_simp; rfl)); (case hp => exact (Reps.none _ _)); intro v4 w4 ho4 hb4 hg4 hn4; have hbox4 := (hb4.cell (p := ⟨B, 0, none⟩) hfz).trans hbox) | ((with_reducible refine gate_builtin (b := .append) (xs := #[.tmp 4, .tmp 5]) rfl ?_); at_builtin; refine Kd.R_append_rows (Kd.int .u8) (w0 := W) W.heap.size rfl (.tmp 4) (.tmp 5) 22 5 (.int .u8 0) 1 rfl Try.underlying22 info5' rfl (by decide) (by omega) v4 ([] : List Int) l _ _ _ (fun _ => True) (fun _ => False) rfl rfl ?aO ?aR (fun _ _ h => h) (fun _ h => h.elim) ?aF ?aB ?aS ?aL ?_; (case aO => exact ho4); (case aR => exact Kd.C_below hr0 hb4); (case aF => exact fun _ _ => trivial); (case aB => exact hb4); (case aS => exact below_size hb4); (case aL => simp only [List.length_nil]; omega); intro v6 w6 ho6 hb6 hg6 hn6; rw [List.nil_append] at ho6) | ((with_reducible refine gate_builtin (b := .append) (xs := #[.tmp 6, .tmp 7]) rfl ?_); at_builtin; refine Kd.R_append_rows (Kd.int .u8) (w0 := W) W.heap.size rfl (.tmp 6) (.tmp 7) 22 5 (.int .u8 0) 1 rfl Try.underlying22 info5' rfl (by decide) (by omega) v6 l x _ _ _ (fun _ => True) (fun _ => False) rfl rfl ?aO ?aR (fun _ _ h => h) (fun _ h => h.elim) ?aF ?aB ?aS ?aL ?_; (case aO => exact ho6); (case aR => exact Kd.C_below hr1 hb6); (case aF => exact fun _ _ => trivial); (case aB => exact hb6); (case aS => exact below_size hb6); (case aL => omega); intro v8 w8 ho8 hb8 hg8 hn8; obtain ⟨A8, c8, rfl, hc8, hC8⟩ := R_read ho8; clear ho8 hg8 hn8 ho6 hb6 hg6 hn6 ho4 hb4 hg4 hn4))
  go_ret
  exact ⟨A8, c8, by rw [List.length_append]; rfl, by rw [List.length_append] at hc8 ⊢; exact hc8, hC8, hb8⟩
set_option maxHeartbeats 8000000 in
set_option maxRecDepth 100000 in
theorem puts_out (A0 : Option Addr) (l : List Int) (c0 : Nat) (A1 : Option Addr) (p : List Int) (c1 : Nat) (n : Nat) (size nn : Int) (W : World) (hl : 300 < l.length ∨ 300 < p.length) :
    Calls Try.prog 3 #[.slice A0 l.length c0, .slice A1 p.length c1, .int .u64 n, .int .i64 size, .int .i64 nn] W fun e w' => e = .returned (.bool true) ∧ Below W.heap.size W w' := by
  obtain ⟨k1, haw⟩ := numawake.rounds
  have HAW := Aside0.mk haw
  clear haw
  by_cases h1 : (300 : Int) < (l.length : Int)
  · go_enter Try.func3, Try.ntmps3
    go_wp2_with (go_at_call 15; refine (estreatlaw01_awake.calls k1 _ _ HAW.out).mono ?_; rintro e w' ⟨rfl, hB⟩)
    go_ret
    exact ⟨rfl, below_step (below_alloc (Below.refl _ _) _) hB⟩
  · have h2 : (300 : Int) < (p.length : Int) := by omega
    go_enter Try.func3, Try.ntmps3
    go_wp2_with (go_at_call 15; refine (estreatlaw01_awake.calls k1 _ _ HAW.out).mono ?_; rintro e w' ⟨rfl, hB⟩)
    go_ret
    exact ⟨rfl, below_step (below_alloc (Below.refl _ _) _) hB⟩
theorem front_len (W : World) (B : Nat) (A0 : Option Addr) (l : List Int) (c0 : Nat) (A1 : Option Addr) (x : List Int) (c1 n1 : Nat) (hn1 : n1 = x.length) (hbox : W.cell? ⟨B, 0, none⟩ = some (.slice A0 l.length c0)) (hr0 : (Kd.int .u8).C W A0 l.length l) (hr1 : (Kd.int .u8).C W A1 x.length x) (hl : l.length ≤ 1000) (hx : x.length ≤ 2000) :
    Calls Try.prog 16 #[.slice A1 n1 c1, .pointer (some ⟨B, 0, none⟩)] W fun e w' => ∃ A c, e = .returned (.slice A (l ++ x).length c) ∧ (l ++ x).length ≤ c ∧ (Kd.int .u8).C w' A (l ++ x).length (l ++ x) ∧ Below W.heap.size W w' := by
  subst hn1
  exact front_any W B A0 l c0 A1 x c1 hbox hr0 hr1 hl hx
/-- What stays through the whole law: the box of the first argument, the row's beginning, all that was there. -/
structure St (W w : World) (B g cap : Nat) (A0 : Option Addr) (c0 : Nat) (l : List Int) : Prop where
  box : w.cell? ⟨B, 0, none⟩ = some (.slice A0 l.length c0)
  pre : Pre w g cap l
  bel : Below W.heap.size W w
  boxlt : B < w.heap.size
section
variable {W w w' : World} {B g cap : Nat} {A0 : Option Addr} {c0 : Nat} {l : List Int}
theorem St.below (h : St W w B g cap A0 c0 l) (hb : Below w.heap.size w w') : St W w' B g cap A0 c0 l :=
  ⟨(hb.cell (p := ⟨B, 0, none⟩) h.boxlt).trans h.box, h.pre.below hb, below_step h.bel hb, Nat.lt_of_lt_of_le h.boxlt hb.size⟩
theorem St.ext (h : St W w B g cap A0 c0 l) {v : Value} {out : List Int} (hX : Ext w w' g cap l v out) (hne : B ≠ g) (hg : W.heap.size ≤ g) : St W w' B g cap A0 c0 l :=
  ⟨(World.cell?_of_block (a := ⟨B, 0, none⟩) (hX.grown.block B h.boxlt (by simpa using hne))).trans h.box, hX.pre, hX.below h.bel hg (below_size h.bel), Nat.lt_of_lt_of_le h.boxlt hX.grown.size⟩
end
theorem same_true (W : World) (A0 A1 : Option Addr) (c0 c1 n0 n1 : Nat) (l : List Int) (h0 : n0 = l.length) (h1 : n1 = l.length) (hr0 : (Kd.int .u8).C W A0 l.length l) (hc0 : l.length ≤ c0) (hr1 : (Kd.int .u8).C W A1 l.length l) (hc1 : l.length ≤ c1) (hl : l.length ≤ 65536) :
    Calls Try.prog 17 #[.slice A0 n0 c0, .slice A1 n1 c1] W fun e w' => e = .returned (.bool true) ∧ Below W.heap.size W w' := by
  subst h0 h1
  have hf := same_f l l (by omega) (l.length + 1) (by omega)
  rw [decide_eq_true rfl] at hf
  exact (estreatref01_Same.calls (l.length + 1) A0 c0 l A1 c1 l _ W hr0 hc0 hr1 hc1 hf).mono (fun e w' ⟨h1, h2⟩ => ⟨h1, h2.below⟩)
theorem refVar_any (W : World) (n : Nat) (hn : n < 18446744073709551616) : Calls Try.prog 19 #[.int .u64 n] W fun e w' => ∃ A c, e = .returned (.slice A (leb n).length c) ∧ (leb n).length ≤ c ∧ (Kd.int .u8).C w' A (leb n).length (leb n) ∧ Below W.heap.size W w' := by
  obtain ⟨k, hk⟩ := (rvar_ev n hn).rounds
  refine (estreatref01_Var.calls k n _ W hk).mono ?_
  rintro e w' ⟨v, rfl, hR, hB⟩
  obtain ⟨A, c, rfl, hc, hC⟩ := R_read hR
  exact ⟨A, c, rfl, hc, hC, hB⟩
theorem refFix_any (W : World) (n : Nat) (size : Int) (hn : n < 18446744073709551616) : Calls Try.prog 21 #[.int .u64 n, .int .i64 size] W fun e w' => ∃ A c, e = .returned (.slice A (fixb (max 0 (min size 8)).toNat n).length c) ∧ (fixb (max 0 (min size 8)).toNat n).length ≤ c ∧ (Kd.int .u8).C w' A (fixb (max 0 (min size 8)).toNat n).length (fixb (max 0 (min size 8)).toNat n) ∧ Below W.heap.size W w' := by
  obtain ⟨k, hk⟩ := (rfixb_f n size hn).rounds
  refine (estreatref01_Fix.calls k n size _ W hk).mono ?_
  rintro e w' ⟨v, rfl, hR, hB⟩
  obtain ⟨A, c, rfl, hc, hC⟩ := R_read hR
  exact ⟨A, c, rfl, hc, hC, hB⟩
theorem refBlob_any (W : World) (A0 : Option Addr) (c0 : Nat) (l : List Int) (hr : (Kd.int .u8).C W A0 l.length l) (hc : l.length ≤ c0) (hl : l.length ≤ 1000) : Calls Try.prog 23 #[.slice A0 l.length c0] W fun e w' => ∃ A c, e = .returned (.slice A (leb l.length ++ l).length c) ∧ (leb l.length ++ l).length ≤ c ∧ (Kd.int .u8).C w' A (leb l.length ++ l).length (leb l.length ++ l) ∧ Below W.heap.size W w' := by
  obtain ⟨k, hk⟩ := (rblob_f l hl).rounds
  refine (estreatref01_Blob.calls k A0 c0 l _ W hr hc hk).mono ?_
  rintro e w' ⟨v, rfl, hR, hB⟩
  obtain ⟨A, c, rfl, hc, hC⟩ := R_read hR
  exact ⟨A, c, rfl, hc, hC, hB⟩
theorem Zig_any (W : World) (x : Int) (h0 : -9223372036854775808 ≤ x) (h1 : x ≤ 9223372036854775807) : Calls Try.prog 24 #[.int .i64 x] W fun e w' => e = .returned (.int .u64 (zz x)) ∧ Below W.heap.size W w' :=
  (num_Zig.calls x _ W (zig_f h0 h1)).mono (fun e w' ⟨h1, h2⟩ => ⟨h1, h2.below⟩)
theorem rZig_any (W : World) (x : Int) (h0 : -9223372036854775808 ≤ x) (h1 : x ≤ 9223372036854775807) : Calls Try.prog 25 #[.int .i64 x] W fun e w' => e = .returned (.int .u64 (zz x)) ∧ Below W.heap.size W w' :=
  (estreatref01_Zig.calls x _ W (refzig_f h0 h1)).mono (fun e w' ⟨h1, h2⟩ => ⟨h1, h2.below⟩)
theorem Zag_any (W : World) (n : Nat) (hn : n < 18446744073709551616) : Calls Try.prog 26 #[.int .u64 n] W fun e w' => e = .returned (.int .i64 (zag n)) ∧ Below W.heap.size W w' :=
  (num_Zag.calls n _ W (zag_f n hn)).mono (fun e w' ⟨h1, h2⟩ => ⟨h1, h2.below⟩)
theorem rZag_any (W : World) (n : Nat) (hn : n < 18446744073709551616) : Calls Try.prog 27 #[.int .u64 n] W fun e w' => e = .returned (.int .i64 (zag n)) ∧ Below W.heap.size W w' :=
  (estreatref01_Zag.calls n _ W (refzag_f n hn)).mono (fun e w' ⟨h1, h2⟩ => ⟨h1, h2.below⟩)
theorem box_new (W : World) (A0 : Option Addr) (l : List Int) (c0 : Nat) : (W.alloc (.cells #[.slice A0 l.length c0] 22)).cell? ⟨W.heap.size, 0, none⟩ = some (.slice A0 l.length c0) := by
  rw [blk_cell (heap_alloc_new W _) 0]; rfl
theorem own_some {v v' : Value} {a b : Nat} (h : ∃ k, v.ownBlock = some k ∧ a ≤ k) (h' : v'.ownBlock = v.ownBlock ∨ ∃ k, v'.ownBlock = some k ∧ b ≤ k) : ∃ k, v'.ownBlock = some k := by
  rcases h' with h' | ⟨k, h', _⟩
  · obtain ⟨k, hk, _⟩ := h
    exact ⟨k, h'.trans hk⟩
  · exact ⟨k, h'⟩
theorem apart_of {W w : World} {A : Option Addr} {p : List Int} {g : Nat} (hr : (Kd.int .u8).C W A p.length p) (hB : Below W.heap.size W w) (hg : W.heap.size ≤ g) : 0 < p.length → ∀ ad, A = some ad → ad.block ≠ g ∧ ad.block < w.heap.size := by
  intro hpos ad hA
  obtain ⟨ad', hA', hc⟩ := C_cellsP hr hpos
  rw [hA] at hA'
  injection hA' with hA'
  subst hA'
  have h0 := hc 0 hpos
  have hlt : (ad.add 0).block < W.heap.size := by
    apply Classical.byContradiction
    intro hn
    have : W.heap[(ad.add 0).block]? = none := by simp; omega
    simp only [World.cell?, this] at h0
    cases h0
  have hbk : (ad.add 0).block = ad.block := by unfold Addr.add; split <;> rfl
  rw [hbk] at hlt
  have := below_size hB
  omega
set_option maxHeartbeats 16000000 in
set_option maxRecDepth 100000 in
theorem puts_walk (A0 : Option Addr) (l : List Int) (c0 : Nat) (A1 : Option Addr) (p : List Int) (c1 : Nat) (n : Nat) (size nn : Int) (W : World) (hl : l.length ≤ 300) (hp : p.length ≤ 300) (hn : n < 18446744073709551616) (h0 : -9223372036854775808 ≤ nn) (h1 : nn ≤ 9223372036854775807)
    (hr0 : (Kd.int .u8).C W A0 l.length l) (hc0 : l.length ≤ c0) (hr1 : (Kd.int .u8).C W A1 p.length p) (hc1 : p.length ≤ c1) (hA1 : A1 = none → p = [] ∧ c1 = 0) :
    Calls Try.prog 3 #[.slice A0 l.length c0, .slice A1 p.length c1, .int .u64 n, .int .i64 size, .int .i64 nn] W fun e w' => e = .returned (.bool true) ∧ Below W.heap.size W w' := by
  obtain ⟨k1, haw⟩ := numawake.rounds
  have HAW := Aside0.mk haw
  have h1' : ¬ (300 : Int) < (l.length : Int) := by omega
  have h2' : ¬ (300 : Int) < (p.length : Int) := by omega
  have hv10 := leb_length10 hn
  have hp10 := leb_length10 (v := p.length) (by omega)
  have hf8 := fixb_length (max 0 (min size 8)).toNat n
  have hLV : (leb n).length ≤ 2000 := by omega
  have hLV2 : (l ++ leb n).length ≤ 65536 := by rw [List.length_append]; omega
  have hLF : (fixb (max 0 (min size 8)).toNat n).length ≤ 2000 := by omega
  have hLF2 : (l ++ fixb (max 0 (min size 8)).toNat n).length ≤ 65536 := by rw [List.length_append]; omega
  have hLB : (leb p.length ++ p).length ≤ 2000 := by rw [List.length_append]; omega
  have hLB2 : (l ++ (leb p.length ++ p)).length ≤ 65536 := by rw [List.length_append, List.length_append]; omega
  clear haw hf8
  go_enter Try.func3, Try.ntmps3
  go_wp2_with (first | ((with_reducible refine gate_dst (N := 23) rfl ?_); refine Kd.R_lit (Kd.int .u8) (W.alloc (.cells #[.slice A0 l.length c0] 22)).heap.size 5 ?hg (N := 23) ?hd (xs := ([] : List Int)) (inner := []) (ok := fun _ => True) (okp := fun _ => True) ?hr ?hp (fun _ hk => hk) trivial (Below.refl _ _) (Nat.le_refl _) (by simp) ?_; (case hd => rfl); (case hg => rfl); (case hr => first | (go_simp; done) | (go_simp; rfl)); (case hp => exact (Reps.none _ _)); intro v23 w23 ho23 hb23 hg23 hn23; have hbox23 := (hb23.cell (p := ⟨W.heap.size, 0, none⟩) (by simp)).trans (box_new W A0 l c0)) | ((with_reducible refine gate_builtin (b := .append) (xs := #[.tmp 23, .tmp 24]) rfl ?_); at_builtin; refine Kd.R_append_rows (Kd.int .u8) (w0 := (W.alloc (.cells #[.slice A0 l.length c0] 22))) (W.alloc (.cells #[.slice A0 l.length c0] 22)).heap.size rfl (.tmp 23) (.tmp 24) 22 5 (.int .u8 0) 1 rfl Try.underlying22 info5' rfl (by decide) (by omega) v23 ([] : List Int) l _ _ _ (fun _ => True) (fun _ => False) rfl rfl ?aO ?aR (fun _ _ h => h) (fun _ h => h.elim) ?aF ?aB ?aS ?aL ?_; (case aO => exact ho23); (case aR => exact Kd.C_below (Kd.C_below hr0 (below_alloc (Below.refl _ _) _)) hb23); (case aF => exact fun _ _ => trivial); (case aB => exact hb23); (case aS => exact below_size hb23); (case aL => simp only [List.length_nil]; omega); intro v25 w25 ho25 hb25 hg25 hn25; rw [List.nil_append] at ho25; obtain ⟨g, cap, rfl, hlc, hcm, hgg, hpre⟩ := R_pre ho25 (own_some hn23 hn25); obtain ⟨hBg, hWg⟩ : W.heap.size ≠ g ∧ W.heap.size ≤ g := (by have := hgg; simp at this; omega); have hst : St W w25 W.heap.size g cap A0 c0 l := ⟨(hb25.cell (p := ⟨W.heap.size, 0, none⟩) (by simp)).trans (box_new W A0 l c0), hpre, below_step (below_alloc (Below.refl _ _) _) hb25, (by have := below_size hb25; simp at this; omega)⟩; clear ho25 hb25 hg25 hn25 ho23 hb23 hg23 hn23 hpre hbox23) | (go_at_call 18; (with_reducible refine (PutVar_ext _ _ _ _ _ hn hst.pre hlc hcm (by omega)).mono ?_); rintro e w28 ⟨u28, rfl, hX28⟩; have hst28 := hst.ext hX28 hBg hWg; obtain ⟨A28, c28, rfl, hc28, hC28⟩ := hX28.reads hcm; clear hst) | (go_at_call 19; (with_reducible refine (refVar_any _ _ hn).mono ?_); rintro e w31 ⟨A31, c31, rfl, hc31, hC31, hB31⟩; have hst31 := hst28.below hB31; have hC2831 := Kd.C_below hC28 hB31; clear hst28) | (go_at_call 16; (with_reducible refine (front_any _ _ _ _ _ _ _ _ hst31.box (Kd.C_below hr0 hst31.bel) hC31 (by omega) hLV).mono ?_); rintro e w32 ⟨A32, c32, rfl, hc32, hC32, hB32⟩; have hst32 := hst31.below hB32; have hC283132 := Kd.C_below hC2831 hB32; clear hst31) | (go_at_call 17; (with_reducible refine (same_true _ _ _ _ _ _ _ (l ++ leb n) (by simp) (by simp) hC283132 hc28 hC32 hc32 hLV2).mono ?_); rintro e w33 ⟨rfl, hB33⟩; have hst33 := hst32.below hB33; clear hst32) | (go_at_call 20; (with_reducible refine (PutFix_ext _ _ _ _ _ _ hn hst33.pre hlc hcm (by omega)).mono ?_); rintro e w38 ⟨u38, rfl, hX38⟩; have hst38 := hst33.ext hX38 hBg hWg; obtain ⟨A38, c38, rfl, hc38, hC38⟩ := hX38.reads hcm; clear hst33) | (go_at_call 21; (with_reducible refine (refFix_any _ _ _ hn).mono ?_); rintro e w42 ⟨A42, c42, rfl, hc42, hC42, hB42⟩; have hst42 := hst38.below hB42; have hC3842 := Kd.C_below hC38 hB42; clear hst38) | (go_at_call 16; (with_reducible refine (front_any _ _ _ _ _ _ _ _ hst42.box (Kd.C_below hr0 hst42.bel) hC42 (by omega) hLF).mono ?_); rintro e w43 ⟨A43, c43, rfl, hc43, hC43, hB43⟩; have hst43 := hst42.below hB43; have hC384243 := Kd.C_below hC3842 hB43; clear hst42) | (go_at_call 17; (with_reducible refine (same_true _ _ _ _ _ _ _ (l ++ fixb (max 0 (min size 8)).toNat n) (by simp) (by simp) hC384243 hc38 hC43 hc43 hLF2).mono ?_); rintro e w44 ⟨rfl, hB44⟩; have hst44 := hst43.below hB44; clear hst43) | (go_at_call 22; (with_reducible refine (PutBlob_ext _ _ _ _ _ _ _ (Kd.C_below hr1 hst44.bel) hA1 (by omega) hst44.pre hlc hcm (by omega) (apart_of hr1 hst44.bel hWg)).mono ?_); rintro e w49 ⟨u49, rfl, hX49⟩; have hst49 := hst44.ext hX49 hBg hWg; obtain ⟨A49, c49, rfl, hc49, hC49⟩ := hX49.reads hcm; clear hst44) | (go_at_call 23; (with_reducible refine (refBlob_any _ _ _ _ (Kd.C_below hr1 hst49.bel) hc1 (by omega)).mono ?_); rintro e w52 ⟨A52, c52, rfl, hc52, hC52, hB52⟩; have hst52 := hst49.below hB52; have hC4952 := Kd.C_below hC49 hB52; clear hst49) | (go_at_call 16; (with_reducible refine (front_len _ _ _ _ _ _ (leb p.length ++ p) _ _ (by simp) hst52.box (Kd.C_below hr0 hst52.bel) hC52 (by omega) hLB).mono ?_); rintro e w53 ⟨A53, c53, rfl, hc53, hC53, hB53⟩; have hst53 := hst52.below hB53; have hC495253 := Kd.C_below hC4952 hB53; clear hst52) | (go_at_call 17; (with_reducible refine (same_true _ _ _ _ _ _ _ (l ++ (leb p.length ++ p)) (by simp) (by simp) hC495253 hc49 hC53 hc53 hLB2).mono ?_); rintro e w54 ⟨rfl, hB54⟩; have hst54 := hst53.below hB54; clear hst53) | (go_at_call 24; (with_reducible refine (Zig_any _ _ h0 h1).mono ?_); rintro e w58 ⟨rfl, hB58⟩; have hst58 := hst54.below hB58; clear hst54) | (go_at_call 25; (with_reducible refine (rZig_any _ _ h0 h1).mono ?_); rintro e w60 ⟨rfl, hB60⟩; have hst60 := hst58.below hB60; clear hst58) | (go_at_call 26; (with_reducible refine (Zag_any _ _ hn).mono ?_); rintro e w65 ⟨rfl, hB65⟩; have hst65 := hst60.below hB65; clear hst60) | (go_at_call 27; (with_reducible refine (rZag_any _ _ hn).mono ?_); rintro e w67 ⟨rfl, hB67⟩; have hst67 := hst65.below hB67; have hbx67 := hst67.box; clear hst65) | (go_at_call 17; (with_reducible refine (same_true _ _ _ _ _ _ _ l rfl rfl (hst67.pre.C (by omega)) hlc (Kd.C_below hr0 hst67.bel) hc0 (by omega)).mono ?_); rintro e w73 ⟨rfl, hB73⟩; have hst73 := hst67.below hB73; clear hst67) | (go_at_call 15; (with_reducible refine (estreatlaw01_awake.calls k1 _ _ HAW.out).mono ?_); rintro e w76 ⟨rfl, hB76⟩))
  go_ret
  exact ⟨rfl, below_step hst73.bel hB76⟩
theorem puts_row (a0 : Option Addr) (len0 cap0 : Nat) (z0 : List Int) (a1 : Option Addr) (len1 cap1 : Nat) (z1 : List Int) (a2 a3 a4 : Int) (w : World)
    (w0 : (a0 = none ∧ len0 = 0 ∧ cap0 = 0 ∧ z0 = []) ∨ ∃ x, a0 = some x ∧ len0 ≤ cap0 ∧ cap0 ≤ maxLen ∧ z0.length = cap0 ∧ (∀ i, i < z0.length → w.cell? (x.add i) = some (.int .u8 (z0.getD i 0))) ∧ ∀ n ∈ z0, (Lit.int .u8 n).wf = true) (y0 : len0 * 1 ≤ 140737488351232)
    (w1 : (a1 = none ∧ len1 = 0 ∧ cap1 = 0 ∧ z1 = []) ∨ ∃ x, a1 = some x ∧ len1 ≤ cap1 ∧ cap1 ≤ maxLen ∧ z1.length = cap1 ∧ (∀ i, i < z1.length → w.cell? (x.add i) = some (.int .u8 (z1.getD i 0))) ∧ ∀ n ∈ z1, (Lit.int .u8 n).wf = true) (y1 : len1 * 1 ≤ 140737488351232)
    (w2 : (Lit.int .u64 a2).wf = true) (w3 : (Lit.int .i64 a3).wf = true) (w4 : (Lit.int .i64 a4).wf = true) :
    Calls Try.prog 3 #[.slice a0 len0 cap0, .slice a1 len1 cap1, .int .u64 a2, .int .i64 a3, .int .i64 a4] w fun e w' => e = .returned (.bool true) ∧ Below w.heap.size w w' := by
  have hnil : a1 = none → len1 = 0 ∧ cap1 = 0 := by
    rintro rfl
    rcases w1 with ⟨_, h1, h2, _⟩ | ⟨x, h, _⟩
    · exact ⟨h1, h2⟩
    · cases h
  obtain ⟨l0, rfl, hr0, hm0, hw0, hc0⟩ := ReadsInt.ofRowC w0
  obtain ⟨l1, rfl, hr1, hm1, hw1, hc1⟩ := ReadsInt.ofRowC w1
  obtain ⟨h0, h1⟩ := wf_u64 w2
  obtain ⟨m, rfl⟩ := Int.eq_ofNat_of_zero_le h0
  obtain ⟨h2, h3⟩ := wf_i64 w4
  by_cases h : 300 < l0.length ∨ 300 < l1.length
  · exact puts_out a0 l0 cap0 a1 l1 cap1 m a3 a4 w h
  · exact puts_walk a0 l0 cap0 a1 l1 cap1 m a3 a4 w (by omega) (by omega) (by omega) h2 h3 (Kd.C_of_reads (d := (0 : Int)) (h1 := fun _ => rfl) hr0) hc0 (Kd.C_of_reads (d := (0 : Int)) (h1 := fun _ => rfl) hr1) hc1 (fun e => ⟨List.eq_nil_of_length_eq_zero (hnil e).1, (hnil e).2⟩)
end Go.Proofs.Ytbjnfephigcdkaa.Puts
