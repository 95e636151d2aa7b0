/- WRITTEN BY A PROGRAM of this session (wip/tool: a turned copy of the printer), out of the translation: Lean functions with the answers of the Go functions, and the proofs that the Go code comes to them. -/
import Derived.Test.YtieddojplhmhgaaDoorPTextsGetsx0
import Derived.Test.YtieddojplhmhgaaDoorPTextsGetsx8
namespace Go.Proofs.YtieddojplhmhgaaDoor.PTextsGets
open Go.RowKit Go.Proofs.YtieddojplhmhgaaDoorW.PrintWords Go.Proofs.YtieddojplhmhgaaDoorW.PrintLast Go.Proofs.YtieddojplhmhgaaDoorW.PrintMore
attribute [local go_sem] max2_int min2_int max_two min_two max_three min_three max_four min_four   -- for this text's walks alone
set_option linter.unusedVariables false
set_option linter.unusedSimpArgs false

/-- A state of type 66 at block g of W; what its slices lead to came in by w0. -/
def IsS66 (w0 W : World) (g : Nat) (f0 : List Int) (f1 : Int) (f2 : Int) (f3 : Int) : Prop := ∃ A0 c0, W.heap[g]? = some (.cells #[.slice A0 f0.length c0, .int .i64 f1, .int .i64 f2, .int .i64 f3] 66 (0, 0)) ∧ w0.heap.size ≤ g ∧ Kd.C (Kd.int .u8) w0 A0 f0.length f0 ∧ f0.length ≤ c0
theorem IsS66.grown {w0 W : World} {g : Nat} {f0 : List Int} {f1 : Int} {f2 : Int} {f3 : Int} {W1 : World} {row : Option Nat} (h : IsS66 w0 W g f0 f1 f2 f3) (hw : W.grownBy W1 row) (hne : some g ≠ row) : IsS66 w0 W1 g f0 f1 f2 f3 := by
  obtain ⟨A0, c0, hb, hg, hr0, hl0⟩ := h
  exact ⟨A0, c0, blk_grown hb hw hne, hg, hr0, hl0⟩
theorem IsS66.kept {w0 W : World} {g : Nat} {f0 : List Int} {f1 : Int} {f2 : Int} {f3 : Int} {W1 : World} {S : Nat → Prop} (h : IsS66 w0 W g f0 f1 f2 f3) (hk : Kept W W1 S) (hne : ¬ S g) : IsS66 w0 W1 g f0 f1 f2 f3 := by
  obtain ⟨A0, c0, hb, hg, hr0, hl0⟩ := h
  exact ⟨A0, c0, blk_kept hb hk hne, hg, hr0, hl0⟩
theorem IsS66.below {w0 W : World} {g : Nat} {f0 : List Int} {f1 : Int} {f2 : Int} {f3 : Int} {W1 : World} (h : IsS66 w0 W g f0 f1 f2 f3) (hw : Below W.heap.size W W1) : IsS66 w0 W1 g f0 f1 f2 f3 := h.grown (grown_of_below hw none) (by simp)
theorem IsS66.alloc {w0 W : World} {g : Nat} {f0 : List Int} {f1 : Int} {f2 : Int} {f3 : Int} (h : IsS66 w0 W g f0 f1 f2 f3) (o : Obj) : IsS66 w0 (W.alloc o) g f0 f1 f2 f3 := h.below (below_alloc (Below.refl _ _) o)
theorem IsS66.drewN {w0 W : World} {g : Nat} {f0 : List Int} {f1 : Int} {f2 : Int} {f3 : Int} (h : IsS66 w0 W g f0 f1 f2 f3) (m : Nat) : IsS66 w0 (W.drewN m) g f0 f1 f2 f3 := h
theorem IsS66.drew {w0 W : World} {g : Nat} {f0 : List Int} {f1 : Int} {f2 : Int} {f3 : Int} (h : IsS66 w0 W g f0 f1 f2 f3) : IsS66 w0 W.drew g f0 f1 f2 f3 := h
theorem IsS66.at_ {w0 W : World} {g : Nat} {f0 : List Int} {f1 : Int} {f2 : Int} {f3 : Int} {w' : World} {m : Nat} (hq : W.drewN m = w') (h : IsS66 w0 W g f0 f1 f2 f3) : IsS66 w0 w' g f0 f1 f2 f3 := by subst hq; exact IsS66.drewN h m
theorem IsS66.apart {w0 W : World} {g : Nat} {f0 : List Int} {f1 : Int} {f2 : Int} {f3 : Int} {α : Type} {d : Kd α} {e : Nat} {base : Nat} {ok : Nat → Prop} {v : Value} {xs : List α} (h : IsS66 w0 W g f0 f1 f2 f3) (ho : d.R e W base ok v xs) (ht : ∀ q, q ∈ e :: d.E → q ≠ 66) : d.R e W base (fun k => ok k ∧ k ≠ g) v xs := by
  obtain ⟨A0, c0, hb, hg, hr0, hl0⟩ := h
  exact Kd.R_types ho hb ht
theorem IsS66.own_ne {w0 W : World} {g : Nat} {f0 : List Int} {f1 : Int} {f2 : Int} {f3 : Int} {α : Type} {d : Kd α} {e : Nat} {base : Nat} {ok : Nat → Prop} {v : Value} {xs : List α} (h : IsS66 w0 W g f0 f1 f2 f3) (ho : d.R e W base ok v xs) (ht : e ≠ 66) : some g ≠ v.ownBlock := by
  obtain ⟨A0, c0, hb, hg, hr0, hl0⟩ := h
  exact Kd.R_ne ho hb ht
theorem IsS66.lt {w0 W : World} {g : Nat} {f0 : List Int} {f1 : Int} {f2 : Int} {f3 : Int} (h : IsS66 w0 W g f0 f1 f2 f3) : g < W.heap.size := by
  obtain ⟨A0, c0, hb, hg, hr0, hl0⟩ := h
  exact blk_lt hb
theorem IsS66.ge {w0 W : World} {g : Nat} {f0 : List Int} {f1 : Int} {f2 : Int} {f3 : Int} (h : IsS66 w0 W g f0 f1 f2 f3) : w0.heap.size ≤ g := by
  obtain ⟨A0, c0, hb, hg, hr0, hl0⟩ := h
  exact hg
theorem IsS66.far {w0 W : World} {g : Nat} {f0 : List Int} {f1 : Int} {f2 : Int} {f3 : Int} {p : Addr} (h : IsS66 w0 W g f0 f1 f2 f3) (hne : g ≠ p.block) (u : Value) : IsS66 w0 (W.setCell p u) g f0 f1 f2 f3 := by
  obtain ⟨A0, c0, hb, hg, hr0, hl0⟩ := h
  exact ⟨A0, c0, blk_far hb hne u, hg, hr0, hl0⟩
theorem cellS66_0 {W : World} {g : Nat} {A0 : Option Addr} {c0 : Nat} {f0 : List Int} {f1 : Int} {f2 : Int} {f3 : Int} (h : W.heap[g]? = some (.cells #[.slice A0 f0.length c0, .int .i64 f1, .int .i64 f2, .int .i64 f3] 66 (0, 0))) : W.cell? ⟨g, 0, none⟩ = some (.slice A0 f0.length c0) := (blk_cell h 0).trans rfl
theorem cellS66_1 {W : World} {g : Nat} {A0 : Option Addr} {c0 : Nat} {f0 : List Int} {f1 : Int} {f2 : Int} {f3 : Int} (h : W.heap[g]? = some (.cells #[.slice A0 f0.length c0, .int .i64 f1, .int .i64 f2, .int .i64 f3] 66 (0, 0))) : W.cell? ⟨g, 1, none⟩ = some (.int .i64 f1) := (blk_cell h 1).trans rfl
theorem IsS66.set_1 {w0 W : World} {g : Nat} {f0 : List Int} {f1 : Int} {f2 : Int} {f3 : Int} (h : IsS66 w0 W g f0 f1 f2 f3) (x : Int) : IsS66 w0 (W.setCell ⟨g, 1, none⟩ (.int .i64 x)) g f0 x f2 f3 := by
  obtain ⟨A0, c0, hb, hg, hr0, hl0⟩ := h
  exact ⟨A0, c0, by simpa using blk_set hb 1 (.int .i64 x), hg, hr0, hl0⟩
theorem cellS66_2 {W : World} {g : Nat} {A0 : Option Addr} {c0 : Nat} {f0 : List Int} {f1 : Int} {f2 : Int} {f3 : Int} (h : W.heap[g]? = some (.cells #[.slice A0 f0.length c0, .int .i64 f1, .int .i64 f2, .int .i64 f3] 66 (0, 0))) : W.cell? ⟨g, 2, none⟩ = some (.int .i64 f2) := (blk_cell h 2).trans rfl
theorem IsS66.set_2 {w0 W : World} {g : Nat} {f0 : List Int} {f1 : Int} {f2 : Int} {f3 : Int} (h : IsS66 w0 W g f0 f1 f2 f3) (x : Int) : IsS66 w0 (W.setCell ⟨g, 2, none⟩ (.int .i64 x)) g f0 f1 x f3 := by
  obtain ⟨A0, c0, hb, hg, hr0, hl0⟩ := h
  exact ⟨A0, c0, by simpa using blk_set hb 2 (.int .i64 x), hg, hr0, hl0⟩
theorem cellS66_3 {W : World} {g : Nat} {A0 : Option Addr} {c0 : Nat} {f0 : List Int} {f1 : Int} {f2 : Int} {f3 : Int} (h : W.heap[g]? = some (.cells #[.slice A0 f0.length c0, .int .i64 f1, .int .i64 f2, .int .i64 f3] 66 (0, 0))) : W.cell? ⟨g, 3, none⟩ = some (.int .i64 f3) := (blk_cell h 3).trans rfl
theorem IsS66.set_3 {w0 W : World} {g : Nat} {f0 : List Int} {f1 : Int} {f2 : Int} {f3 : Int} (h : IsS66 w0 W g f0 f1 f2 f3) (x : Int) : IsS66 w0 (W.setCell ⟨g, 3, none⟩ (.int .i64 x)) g f0 f1 f2 x := by
  obtain ⟨A0, c0, hb, hg, hr0, hl0⟩ := h
  exact ⟨A0, c0, by simpa using blk_set hb 3 (.int .i64 x), hg, hr0, hl0⟩
theorem IsS66.new (w0 W : World) (A0 : Option Addr) (c0 : Nat) (f0 : List Int) (f1 : Int) (f2 : Int) (f3 : Int) (hB : Below w0.heap.size w0 W) (hr0 : Kd.C (Kd.int .u8) w0 A0 f0.length f0) (hl0 : f0.length ≤ c0) : IsS66 w0 (W.alloc (.cells #[.slice A0 f0.length c0, .int .i64 f1, .int .i64 f2, .int .i64 f3] 66)) W.heap.size f0 f1 f2 f3 := ⟨A0, c0, by simpa using heap_alloc_new W _, hB.size, hr0, hl0⟩

/-! ### estreatref01_Reader_Fail: function 75 -/
def estreatref01_Reader_Fail.f (s0_0 : List Int) (s0_1 : Int) (s0_2 : Int) (s0_3 : Int) (a1 : Int) : Option (Int × Int × Int) := if s0_2 = 0 then (if a1 = 0 then (some (s0_1, s0_2, s0_3)) else (some (s0_1, a1, s0_1))) else (some (s0_1, s0_2, s0_3))
set_option maxHeartbeats 8000000 in
set_option maxRecDepth 100000 in
theorem estreatref01_Reader_Fail.calls (g : Nat) (s0_0 : List Int) (s0_1 : Int) (s0_2 : Int) (s0_3 : Int) (a1 : Int) (r1 : Int) (r2 : Int) (r3 : Int) (w0 w : World) (hI : IsS66 w0 w g s0_0 s0_1 s0_2 s0_3) (hB : Below w0.heap.size w0 w) (h : estreatref01_Reader_Fail.f s0_0 s0_1 s0_2 s0_3 a1 = some (r1, r2, r3)) :
    Calls Tryd.prog 75 #[.pointer (some ⟨g, 0, none⟩), .int .i64 a1] w fun e w' => e = .returned (.tuple #[]) ∧ IsS66 w0 w' g s0_0 r1 r2 r3 ∧ Below w0.heap.size w0 w' ∧ KeepBut w w' g none := by
  have HI0 := Aside0.mk hI
  have HK := Aside0.mk (KeepBut.refl w g none)
  have HL := Aside0.mk hB.size
  clear hI
  have HW0 := Aside0.mk hB.size
  have HB := Aside0.mk hB
  clear hB
  have H : (if s0_2 = 0 then (if a1 = 0 then (some (s0_1, s0_2, s0_3)) else (some (s0_1, a1, s0_1))) else (some (s0_1, s0_2, s0_3))) = some (r1, r2, r3) := h
  clear h
  by_cases c3 : s0_2 = 0
  · rw [if_pos c3] at H
    have c3b0 : (s0_2 == 0) = true := beq_iff_eq.mpr c3
    have c3b1 : (s0_2 != 0) = false := bne_eq_false_iff_eq.mpr c3
    clear c3
    by_cases c4 : a1 = 0
    · rw [if_pos c4] at H
      have c4b0 : (a1 == 0) = true := beq_iff_eq.mpr c4
      have c4b1 : (a1 != 0) = false := bne_eq_false_iff_eq.mpr c4
      clear c4
      simp only [Option.some.injEq, Prod.mk.injEq] at H
      obtain ⟨rfl, rfl, rfl⟩ := H
      obtain ⟨ASz5_0, cSz5_0, HGz5, hgz5, HSz5_0⟩ := HI0.out
      have hcz5_0 := cellS66_0 HGz5
      have hcz5_1 := cellS66_1 HGz5
      have hcz5_2 := cellS66_2 HGz5
      have hcz5_3 := cellS66_3 HGz5
      have hfz5_1 := blk_frozen HGz5 1
      have hfz5_2 := blk_frozen HGz5 2
      have hfz5_3 := blk_frozen HGz5 3
      clear HGz5 hgz5
      go_enter Tryd.func75, Tryd.ntmps75
      go_wp2
      first | go_end0 | ((try simp only [Exit.inBlock, Exit.then]); refine bodyPost_ret (results_none rfl _ _ _) rfl ?_)
      exact ⟨by first | rfl | (simp [errW_none, errW_some] <;> rfl) | (simp [*, errW_none, errW_some] <;> rfl), by repeat (first | (with_reducible first | exact HI0.out | apply IsS66.alloc | apply IsS66.drewN | apply IsS66.drew | apply IsS66.set_1 | apply IsS66.set_2 | apply IsS66.set_3) | exact HI0.out), by repeat (first | (with_reducible first | exact HB.out | apply below_alloc | apply pw_below_drewN | apply below_drew1 | refine below_set ?_ (IsS66.ge HI0.out)) | exact HB.out), by repeat (first | (with_reducible first | exact HK.out | apply KeepBut.set_ | apply keep_drewN | apply keep_drew | apply keep_alloc) | exact HK.out)⟩
    · rw [if_neg c4] at H
      have c4b0 : (a1 == 0) = false := beq_eq_false_iff_ne.mpr c4
      have c4b1 : (a1 != 0) = true := bne_iff_ne.mpr c4
      simp only [Option.some.injEq, Prod.mk.injEq] at H
      obtain ⟨rfl, rfl, rfl⟩ := H
      obtain ⟨ASz6_0, cSz6_0, HGz6, hgz6, HSz6_0⟩ := HI0.out
      have hcz6_0 := cellS66_0 HGz6
      have hcz6_1 := cellS66_1 HGz6
      have hcz6_2 := cellS66_2 HGz6
      have hcz6_3 := cellS66_3 HGz6
      have hfz6_1 := blk_frozen HGz6 1
      have hfz6_2 := blk_frozen HGz6 2
      have hfz6_3 := blk_frozen HGz6 3
      clear HGz6 hgz6
      go_enter Tryd.func75, Tryd.ntmps75
      go_wp2
      first | go_end0 | ((try simp only [Exit.inBlock, Exit.then]); refine bodyPost_ret (results_none rfl _ _ _) rfl ?_)
      exact ⟨by first | rfl | (simp [errW_none, errW_some] <;> rfl) | (simp [*, errW_none, errW_some] <;> rfl), by repeat (first | (with_reducible first | exact HI0.out | apply IsS66.alloc | apply IsS66.drewN | apply IsS66.drew | apply IsS66.set_1 | apply IsS66.set_2 | apply IsS66.set_3) | exact HI0.out), by repeat (first | (with_reducible first | exact HB.out | apply below_alloc | apply pw_below_drewN | apply below_drew1 | refine below_set ?_ (IsS66.ge HI0.out)) | exact HB.out), by repeat (first | (with_reducible first | exact HK.out | apply KeepBut.set_ | apply keep_drewN | apply keep_drew | apply keep_alloc) | exact HK.out)⟩
  · rw [if_neg c3] at H
    have c3b0 : (s0_2 == 0) = false := beq_eq_false_iff_ne.mpr c3
    have c3b1 : (s0_2 != 0) = true := bne_iff_ne.mpr c3
    simp only [Option.some.injEq, Prod.mk.injEq] at H
    obtain ⟨rfl, rfl, rfl⟩ := H
    obtain ⟨ASz7_0, cSz7_0, HGz7, hgz7, HSz7_0⟩ := HI0.out
    have hcz7_0 := cellS66_0 HGz7
    have hcz7_1 := cellS66_1 HGz7
    have hcz7_2 := cellS66_2 HGz7
    have hcz7_3 := cellS66_3 HGz7
    have hfz7_1 := blk_frozen HGz7 1
    have hfz7_2 := blk_frozen HGz7 2
    have hfz7_3 := blk_frozen HGz7 3
    clear HGz7 hgz7
    go_enter Tryd.func75, Tryd.ntmps75
    go_wp2
    first | go_end0 | ((try simp only [Exit.inBlock, Exit.then]); refine bodyPost_ret (results_none rfl _ _ _) rfl ?_)
    exact ⟨by first | rfl | (simp [errW_none, errW_some] <;> rfl) | (simp [*, errW_none, errW_some] <;> rfl), by repeat (first | (with_reducible first | exact HI0.out | apply IsS66.alloc | apply IsS66.drewN | apply IsS66.drew | apply IsS66.set_1 | apply IsS66.set_2 | apply IsS66.set_3) | exact HI0.out), by repeat (first | (with_reducible first | exact HB.out | apply below_alloc | apply pw_below_drewN | apply below_drew1 | refine below_set ?_ (IsS66.ge HI0.out)) | exact HB.out), by repeat (first | (with_reducible first | exact HK.out | apply KeepBut.set_ | apply keep_drewN | apply keep_drew | apply keep_alloc) | exact HK.out)⟩

/-! ### estreatref01_Reader_Var: function 48 -/
def estreatref01_Reader_Var.f (k : Nat) (s0_0 : List Int) (s0_1 : Int) (s0_2 : Int) (s0_3 : Int) : Option (Int × Int × Int × Int) :=
  if s0_2 ≠ 0 then some (0, s0_1, s0_2, s0_3)
  else if 0 ≤ s0_1 ∧ s0_1 ≤ (s0_0.length : Int) then
    (estreatref01_look.f k (s0_0.drop s0_1.toNat)).bind fun t => (estreatref01_Reader_Fail.f s0_0 s0_1 s0_2 s0_3 t.2.2).bind fun u => some (t.1, wrap64 (u.1 + t.2.1), u.2.1, u.2.2)
  else none
set_option maxRecDepth 100000 in
set_option maxHeartbeats 8000000 in
theorem estreatref01_Reader_Var.calls (k : Nat) (g : Nat) (s0_0 : List Int) (s0_1 : Int) (s0_2 : Int) (s0_3 : Int) (r1 : Int) (r2 : Int) (r3 : Int) (r4 : Int) (w0 w : World) (hI : IsS66 w0 w g s0_0 s0_1 s0_2 s0_3) (hB : Below w0.heap.size w0 w) (h : estreatref01_Reader_Var.f k s0_0 s0_1 s0_2 s0_3 = some (r1, r2, r3, r4)) :
    Calls Tryd.prog 48 #[.pointer (some ⟨g, 0, none⟩)] w fun e w' => e = .returned (.int .u64 r1) ∧ IsS66 w0 w' g s0_0 r2 r3 r4 ∧ Below w0.heap.size w0 w' ∧ KeepBut w w' g none := by
  unfold estreatref01_Reader_Var.f at h
  have hI0 := hI
  obtain ⟨A1, c1, hb, _, hC0, hcc⟩ := hI
  have hI := hI0
  have hc0 := cellS66_0 hb
  have hc1 := cellS66_1 hb
  have hc2 := cellS66_2 hb
  have hfz := fun j => blk_frozen hb j
  have hg := hI.ge
  by_cases h0 : s0_2 ≠ 0
  · rw [if_pos h0] at h
    simp only [Option.some.injEq, Prod.mk.injEq] at h
    obtain ⟨rfl, rfl, rfl, rfl⟩ := h
    have d0 : (s0_2 != 0) = true := bne_iff_ne.mpr h0
    go_enter Tryd.func48, Tryd.ntmps48
    go_wp2
    go_ret
    exact ⟨rfl, hI0, hB, KeepBut.refl _ _ _⟩
  rw [if_neg h0] at h
  by_cases hb0 : 0 ≤ s0_1 ∧ s0_1 ≤ (s0_0.length : Int)
  case neg => rw [if_neg hb0] at h; cases h
  rw [if_pos hb0] at h
  obtain ⟨⟨t1, t2, t3⟩, ht, h⟩ := Option.bind_eq_some_iff.mp h
  obtain ⟨⟨u1, u2, u3⟩, hu, h⟩ := Option.bind_eq_some_iff.mp h
  simp only [Option.some.injEq, Prod.mk.injEq] at h
  obtain ⟨rfl, rfl, rfl, rfl⟩ := h
  obtain ⟨hb1, hb2⟩ := hb0
  have h0 : s0_2 = 0 := by simpa using h0
  subst h0
  have hC := Kd.C_below hC0 hB
  have hmid := Kd.C_drop (m := s0_1.toNat) hC (by omega) hcc
  have hmid : (Kd.int .u8).C w (if c1 = s0_1.toNat then A1 else A1.map (fun x => x.add s0_1.toNat)) (s0_0.drop s0_1.toNat).length (s0_0.drop s0_1.toNat) := by simpa [Kd.int, Kd.scalar] using hmid
  have hst : s0_0.length - s0_1.toNat = (s0_0.drop s0_1.toNat).length := by rw [List.length_drop]
  have hle : (s0_0.drop s0_1.toNat).length ≤ c1 - s0_1.toNat := by omega
  have hl5 : s0_1 ≤ (c1 : Int) := by omega
  have hKC : (Kd.int .u8).C w.drew (if c1 = s0_1.toNat then A1 else A1.map (fun x => x.add s0_1.toNat)) (s0_0.drop s0_1.toNat).length (s0_0.drop s0_1.toNat) := Kd.C_below hmid (below_drew1 (Below.refl _ _))
  have hLK := fun (A0 : Option Addr) (c0 : Nat) (W : World) h1 h2 => estreatref01_look.calls k A0 c0 (s0_0.drop s0_1.toNat) t1 t2 t3 W h1 h2 ht
  generalize hL : s0_0.drop s0_1.toNat = l1 at *
  clear hmid hL ht hC hC0 hb
  by_cases hcs : c1 = s0_1.toNat
  case' pos => rw [if_pos hcs] at hKC; subst hcs
  case' neg => rw [if_neg hcs] at hKC
  all_goals
    go_enter Tryd.func48, Tryd.ntmps48
    go_wp2
    go_region_with (go_at_call 74; refine (hLK _ _ _ hKC (by omega)).mono ?_; rintro e w2 ⟨rfl, ⟨m, rfl⟩⟩)
    all_goals
      go_wp2_with (go_at_call 75; refine (estreatref01_Reader_Fail.calls g _ _ _ _ t3 u1 u2 u3 w0 _ (by repeat (first | exact hI0 | apply IsS66.drewN | apply IsS66.drew)) (by repeat (first | exact hB | apply pw_below_drewN | apply below_drew1)) hu).mono ?_; rintro e w3 ⟨rfl, hI3, hB3, hK3⟩; obtain ⟨A3, c3, hb3, _, _, _⟩ := id hI3; have hc30 := cellS66_0 hb3; have hc31 := cellS66_1 hb3; have hfz3 := fun j => blk_frozen hb3 j)
      go_ret
      exact ⟨rfl, hI3.set_1 _, hB3.setCell (p := ⟨g, 1, none⟩) hg _, KeepBut.set_ (KeepBut.trans (by repeat (first | exact KeepBut.refl _ _ _ | apply keep_drewN | apply keep_drew)) hK3 (.inl rfl)) _ _⟩

/-! ### estreatref01_Reader_Take: function 76 -/
def estreatref01_Reader_Take.f (s0_0 : List Int) (s0_1 : Int) (s0_2 : Int) (s0_3 : Int) (a1 : Int) : Option (List Int × Int × Int × Int) :=
  if 0 ≤ s0_1 ∧ s0_1 ≤ (s0_0.length : Int) ∧ (s0_0.length : Int) ≤ 140737488355328 then
    if s0_2 ≠ 0 then some ([], s0_1, s0_2, s0_3)
    else if a1 < 0 then some ([], s0_1, 1, s0_1)
    else if (s0_0.length : Int) - s0_1 < a1 then some ([], s0_1, 2, s0_1)
    else some ((s0_0.drop s0_1.toNat).take a1.toNat, s0_1 + a1, 0, s0_3)
  else none
theorem estreatref01_Reader_Take.info : (Tryd.prog.info? 5).map (fun i => (i.zero, i.size, i.bytes)) = some (some (.int .u8 0), 1, 1) := by kernel_rfl
theorem estreatref01_Reader_Take.under : Tryd.prog.underlying 23 = some (.slice 5) := by kernel_rfl
set_option maxRecDepth 100000 in
set_option maxHeartbeats 8000000 in
theorem estreatref01_Reader_Take.calls (g : Nat) (s0_0 : List Int) (s0_1 : Int) (s0_2 : Int) (s0_3 : Int) (a1 : Int) (r1 : List Int) (r2 r3 r4 : Int) (w0 w : World) (hI : IsS66 w0 w g s0_0 s0_1 s0_2 s0_3) (hB : Below w0.heap.size w0 w) (h : estreatref01_Reader_Take.f s0_0 s0_1 s0_2 s0_3 a1 = some (r1, r2, r3, r4)) :
    Calls Tryd.prog 76 #[.pointer (some ⟨g, 0, none⟩), .int .i64 a1] w fun e w' => ∃ v0_ : Value, e = .returned v0_ ∧ (Kd.int .u8).R 5 w' w.heap.size (fun _ => True) v0_ r1 ∧ IsS66 w0 w' g s0_0 r2 r3 r4 ∧ Below w0.heap.size w0 w' ∧ KeepBut w w' g none := by
  unfold estreatref01_Reader_Take.f at h
  by_cases hb0 : 0 ≤ s0_1 ∧ s0_1 ≤ (s0_0.length : Int) ∧ (s0_0.length : Int) ≤ 140737488355328
  case neg => rw [if_neg hb0] at h; cases h
  rw [if_pos hb0] at h
  obtain ⟨hb1, hb2, hb3⟩ := hb0
  have hw : wrap64 ((s0_0.length : Int) - s0_1) = (s0_0.length : Int) - s0_1 := by unfold wrap64; omega
  have hw' : IntKind.i64.wrap ((s0_0.length : Int) - s0_1) = (s0_0.length : Int) - s0_1 := (IntKind.wrap_i64 _).trans (by omega)
  have hI0 := hI
  obtain ⟨A1, c1, hb, _, hC0, hcc⟩ := id hI
  have hc0 := cellS66_0 hb
  have hc1 := cellS66_1 hb
  have hc2 := cellS66_2 hb
  have hfz := fun j => blk_frozen hb j
  have hg := hI.ge
  have hlt := hI.lt
  by_cases h0 : s0_2 = 0
  case neg =>
    rw [if_pos h0] at h
    simp only [Option.some.injEq, Prod.mk.injEq] at h
    obtain ⟨rfl, rfl, rfl, rfl⟩ := h
    go_enter Tryd.func76, Tryd.ntmps76
    go_wp2
    go_ret
    exact ⟨_, rfl, Kd.R_nil _ _ _ _ _, hI0, hB, KeepBut.refl _ _ _⟩
  rw [if_neg (by simp [h0])] at h
  subst h0
  by_cases h1 : a1 < 0
  · rw [if_pos h1] at h
    simp only [Option.some.injEq, Prod.mk.injEq] at h
    obtain ⟨rfl, e2, rfl, e4⟩ := h
    subst e2 e4
    have d1 : decide (a1 < 0) = true := decide_eq_true h1
    have hF := estreatref01_Reader_Fail.calls g s0_0 s0_1 0 s0_3 1 s0_1 1 s0_1 w0 w hI0 hB (by simp [estreatref01_Reader_Fail.f])
    go_enter Tryd.func76, Tryd.ntmps76
    go_wp2_with (go_at_call 75; refine hF.mono ?_; rintro e w1 ⟨rfl, hI1, hB1, hK1⟩)
    go_ret
    exact ⟨_, rfl, Kd.R_nil _ _ _ _ _, hI1, hB1, hK1⟩
  rw [if_neg h1] at h
  have d1 : decide (a1 < 0) = false := decide_eq_false h1
  by_cases h2 : (s0_0.length : Int) - s0_1 < a1
  · rw [if_pos h2] at h
    simp only [Option.some.injEq, Prod.mk.injEq] at h
    obtain ⟨rfl, e2, rfl, e4⟩ := h
    subst e2 e4
    have d2 : decide ((s0_0.length : Int) - s0_1 < a1) = true := decide_eq_true h2
    have hF := fun m => estreatref01_Reader_Fail.calls g s0_0 s0_1 0 s0_3 2 s0_1 2 s0_1 w0 (w.drewN m) (hI0.drewN m) (pw_below_drewN hB m) (by simp [estreatref01_Reader_Fail.f])
    go_enter Tryd.func76, Tryd.ntmps76
    go_wp2
    repeat (go_quiet (fail); try go_wp2_with (go_at_call 75; refine (hF _).mono ?_; rintro e w1 ⟨rfl, hI1, hB1, hK1⟩))
    go_ret
    exact ⟨_, rfl, Kd.R_nil _ _ _ _ _, hI1, hB1, hK1⟩
  rw [if_neg h2] at h
  have d2 : decide ((s0_0.length : Int) - s0_1 < a1) = false := decide_eq_false h2
  simp only [Option.some.injEq, Prod.mk.injEq] at h
  obtain ⟨rfl, rfl, rfl, rfl⟩ := h
  have hw2 : wrap64 (s0_1 + a1) = s0_1 + a1 := by unfold wrap64; omega
  go_enter Tryd.func76, Tryd.ntmps76
  go_wp2
  go_quiet (fail)
  go_wp2
  have hI1 := IsS66.set_1 (hI0.drewN nq) (s0_1 + a1)
  have hB1 := (pw_below_drewN hB nq).setCell (p := ⟨g, 1, none⟩) hg (.int .i64 (s0_1 + a1))
  have hK1 := KeepBut.set_ (keep_drewN (KeepBut.refl w g none) nq) 1 (.int .i64 (s0_1 + a1))
  generalize (w.drewN nq).setCell ⟨g, 1, none⟩ (.int .i64 (s0_1 + a1)) = W0 at hI1 hB1 hK1 ⊢
  have hw5 : IntKind.i64.wrap (s0_1 + a1 - a1) = s0_1 := (IntKind.wrap_i64 _).trans (by omega)
  have hlen : ((s0_0.drop s0_1.toNat).take a1.toNat).length = a1.toNat := by rw [List.length_take, List.length_drop]; omega
  have hxy : (s0_0.take (s0_1 + a1).toNat).drop s0_1.toNat = (s0_0.drop s0_1.toNat).take a1.toNat := by rw [List.drop_take]; congr 1; omega
  have hst : (s0_1 + a1).toNat - s0_1.toNat = ((s0_0.drop s0_1.toNat).take a1.toNat).length := by rw [hlen]; omega
  have hl1 : s0_1 ≤ s0_1 + a1 := by omega
  have hl2 : s0_1 + a1 ≤ (s0_0.length : Int) := by omega
  have hl3 : (s0_1 + a1).toNat ≤ s0_0.length := by omega
  have hl4 : s0_1.toNat ≤ (s0_1 + a1).toNat := by omega
  have hl6 : ((s0_0.drop s0_1.toNat).take a1.toNat).length ≤ 140737488355328 := by rw [hlen]; omega
  have hsz0 : w.heap.size ≤ W0.heap.size := hK1.1
  clear hc0 hc1 hc2 hfz hb hw2 hw hw' hI0 hI hC0 hcc h2 d2 d1 h1
  generalize hT : s0_1 + a1 = t1 at *
  generalize hL : (s0_0.drop s0_1.toNat).take a1.toNat = l1 at *
  have HT := Aside0.mk hT
  have HL := Aside0.mk hL
  clear hT hL
  have hI2 := hI1.drew
  obtain ⟨A2, c2, hbA, _, hCA, hcc⟩ := id hI1
  have hcA0 := cellS66_0 hbA
  have hcA1 := cellS66_1 hbA
  have hC := Kd.C_below hCA hB1
  have hmid := Kd.C_mid hC hl4 hl3 hcc
  rw [hxy] at hmid
  have hmid : (Kd.int .u8).C W0 (if c2 = s0_1.toNat then A2 else A2.map (fun x => x.add s0_1.toNat)) l1.length l1 := by simpa [Kd.int, Kd.scalar] using hmid
  have hl5 : t1 ≤ (c2 : Int) := by omega
  have hBn : Below W0.heap.size W0 (W0.drew.alloc (.cells #[] 5)) := below_alloc (below_drew1 (Below.refl _ _)) _
  have hRn : (Kd.int .u8).R 5 (W0.drew.alloc (.cells #[] 5)) W0.heap.size (fun _ => True) (.slice (some ⟨W0.heap.size, 0, none⟩) 0 0) [] :=
    Kd.R_of_own (h1 := fun _ => rfl) (by simpa [encs] using World.ownsRow_lit (base := W0.heap.size) (e := 5) (size := 1) W0.drew #[] 0 (by simp) (by decide) (by simp)) (fun _ _ => trivial)
  have hCn := Kd.C_below hmid hBn
  have hltg := hI1.lt
  clear hC hCA hbA hmid hxy hlen hl2 hl3 hl4 hb2 hb3 hcc
  by_cases hcs : c2 = s0_1.toNat
  case pos =>
    rw [if_pos hcs] at hCn
    replace hcs := eq_true hcs
    go_region_held3 (fun W => W.cell? ⟨g, 0, none⟩ = some (.slice A2 s0_0.length c2) ∧ W.cell? ⟨g, 1, none⟩ = some (.int .i64 t1)) (first | exact ⟨hcA0, hcA1⟩ | exact ⟨(hbn.cell (p := ⟨g, 0, none⟩) hltg).trans hcA0, (hbn.cell (p := ⟨g, 1, none⟩) hltg).trans hcA1⟩ | go_keep)
      (first | (refine Kd.R_append_rows_step (Kd.int .u8) (w0 := W0) W0.heap.size (by rfl) (.tmp 37) (.tmp 52) 23 5 (.int .u8 0) 1 rfl estreatref01_Reader_Take.under estreatref01_Reader_Take.info rfl (by decide) (by omega) _ [] l1 _ _ _ (fun _ => True) (fun _ => False) rfl rfl hRn hCn (fun _ _ h => h) (fun _ h => h.elim) (fun _ _ => trivial) hBn (by simp) (by simpa using hl6) ?_; intro v1 w1 ho hbn hgr hat) | fail)
    all_goals (go_wp2; go_ret; exact ⟨_, rfl, by rw [HL.out]; exact Kd.R_lower (by simpa using ho) hsz0, by rw [HT.out]; exact hI1.below hbn, below_step hB1 hbn, hK1.trans (KeepBut.of_below hbn g none) (.inl rfl)⟩)
  case neg =>
    rw [if_neg hcs] at hCn
    replace hcs := eq_false hcs
    go_region_held3 (fun W => W.cell? ⟨g, 0, none⟩ = some (.slice A2 s0_0.length c2) ∧ W.cell? ⟨g, 1, none⟩ = some (.int .i64 t1)) (first | exact ⟨hcA0, hcA1⟩ | exact ⟨(hbn.cell (p := ⟨g, 0, none⟩) hltg).trans hcA0, (hbn.cell (p := ⟨g, 1, none⟩) hltg).trans hcA1⟩ | go_keep)
      (first | (refine Kd.R_append_rows_step (Kd.int .u8) (w0 := W0) W0.heap.size (by rfl) (.tmp 37) (.tmp 52) 23 5 (.int .u8 0) 1 rfl estreatref01_Reader_Take.under estreatref01_Reader_Take.info rfl (by decide) (by omega) _ [] l1 _ _ _ (fun _ => True) (fun _ => False) rfl rfl hRn hCn (fun _ _ h => h) (fun _ h => h.elim) (fun _ _ => trivial) hBn (by simp) (by simpa using hl6) ?_; intro v1 w1 ho hbn hgr hat) | fail)
    all_goals (go_wp2; go_ret; exact ⟨_, rfl, by rw [HL.out]; exact Kd.R_lower (by simpa using ho) hsz0, by rw [HT.out]; exact hI1.below hbn, below_step hB1 hbn, hK1.trans (KeepBut.of_below hbn g none) (.inl rfl)⟩)

/-! ### estreatref01_Reader_Fix: function 49 -/
mutual
def estreatref01_Reader_Fix.j0 : Nat → Int → Bool → List Int → Int → Int → Int → Option (Int × Int × Int × Int)
  | 0, _, _, _, _, _, _ => none
  | k + 1, x1, x13, x1000, x1001, x1002, x1003 => if x13 = true then ((estreatref01_Reader_Fail.f x1000 x1001 x1002 x1003 1).bind fun bt320 => (some (0, bt320.1, bt320.2.1, bt320.2.2))) else ((estreatref01_Reader_Take.f x1000 x1001 x1002 x1003 x1).bind fun bt323 => (estreatref01_Reader_Fix.l0 k bt323.1 0 (wrap64 ((bt323.1.length : Int) - 1)) x1000 bt323.2.1 bt323.2.2.1 bt323.2.2.2))
def estreatref01_Reader_Fix.l0 : Nat → List Int → Int → Int → List Int → Int → Int → Int → Option (Int × Int × Int × Int)
  | 0, _, _, _, _, _, _, _ => none
  | k + 1, x5, x6, x7, x1000, x1001, x1002, x1003 => if x7 ≥ 0 then (if 0 ≤ x7 then (if x7 < (x5.length : Int) then (estreatref01_Reader_Fix.l0 k x5 (IntKind.u64.wrap ((IntKind.u64.wrap (256 * x6)) + (IntKind.u64.wrap (rd x5 x7)))) (wrap64 (x7 - 1)) x1000 x1001 x1002 x1003) else (none)) else (none)) else (some (x6, x1001, x1002, x1003))
end
def estreatref01_Reader_Fix.f (k : Nat) (s0_0 : List Int) (s0_1 : Int) (s0_2 : Int) (s0_3 : Int) (a1 : Int) : Option (Int × Int × Int × Int) := if a1 < 0 then (estreatref01_Reader_Fix.j0 k a1 true s0_0 s0_1 s0_2 s0_3) else (estreatref01_Reader_Fix.j0 k a1 (decide (a1 > 8)) s0_0 s0_1 s0_2 s0_3)
set_option maxHeartbeats 8000000 in
set_option maxRecDepth 100000 in
theorem estreatref01_Reader_Fix.calls (k : Nat) (g : Nat) (s0_0 : List Int) (s0_1 : Int) (s0_2 : Int) (s0_3 : Int) (a1 : Int) (r1 : Int) (r2 : Int) (r3 : Int) (r4 : Int) (w0 w : World) (hI : IsS66 w0 w g s0_0 s0_1 s0_2 s0_3) (hB : Below w0.heap.size w0 w) (h : estreatref01_Reader_Fix.f k s0_0 s0_1 s0_2 s0_3 a1 = some (r1, r2, r3, r4)) :
    Calls Tryd.prog 49 #[.pointer (some ⟨g, 0, none⟩), .int .i64 a1] w fun e w' => e = .returned (.int .u64 r1) ∧ IsS66 w0 w' g s0_0 r2 r3 r4 ∧ Below w0.heap.size w0 w' ∧ KeepBut w w' g none := by
  have HI0 := Aside0.mk hI
  have HK := Aside0.mk (KeepBut.refl w g none)
  have HL := Aside0.mk hB.size
  clear hI
  have HW0 := Aside0.mk hB.size
  have HB := Aside0.mk hB
  clear hB
  have H : (if a1 < 0 then (estreatref01_Reader_Fix.j0 k a1 true s0_0 s0_1 s0_2 s0_3) else (estreatref01_Reader_Fix.j0 k a1 (decide (a1 > 8)) s0_0 s0_1 s0_2 s0_3)) = some (r1, r2, r3, r4) := h
  clear h
  have HC3 := Aside0.mk H
  clear H
  go_enter Tryd.func49, Tryd.ntmps49
  go_upto_region 1 with (fail)
  go_cut [13] (fun v13 wc => ∃ (kq : Nat) (x13_2 : Bool), v13 = .bool x13_2 ∧ Aside0 (estreatref01_Reader_Fix.j0 kq a1 x13_2 s0_0 s0_1 s0_2 s0_3 = some (r1, r2, r3, r4)) ∧ Aside0 (kq ≤ k) ∧ Aside0 (IsS66 w0 wc g s0_0 s0_1 s0_2 s0_3) ∧ Aside0 (KeepBut w wc g none) ∧ Aside0 (Below w0.heap.size w0 wc))
  case first =>
    have H := HC3.out
    clear HC3
    by_cases c4 : a1 < 0
    · rw [if_pos c4] at H
      have c4b0 : decide (a1 < 0) = true := decide_eq_true c4
      clear c4
      (first | rw [c4b0] | (simp only [i64_w, i32_w]; rw [c4b0]) | skip)
      have H' := Aside0.mk H
      clear H
      go_wp2
      go_meet
      case rel => exact ⟨_, (true), (by first | rfl | (simp; done) | (simp [*]; done)), H', ⟨by first | omega | exact Nat.le_refl _⟩, ⟨by repeat (first | (with_reducible first | exact HI0.out | apply IsS66.alloc | apply IsS66.drewN | apply IsS66.drew | apply IsS66.set_1 | apply IsS66.set_2 | apply IsS66.set_3) | exact HI0.out)⟩, ⟨by repeat (first | (with_reducible first | exact HK.out | apply KeepBut.set_ | apply keep_drewN | apply keep_drew | apply keep_alloc) | exact HK.out)⟩, ⟨by repeat (first | (with_reducible first | exact HB.out | apply below_alloc | apply pw_below_drewN | apply below_drew1 | refine below_set ?_ (IsS66.ge HI0.out)) | exact HB.out)⟩⟩
    · rw [if_neg c4] at H
      have c4b0 : decide (a1 < 0) = false := decide_eq_false c4
      clear c4
      (first | rw [c4b0] | (simp only [i64_w, i32_w]; rw [c4b0]) | skip)
      have H' := Aside0.mk H
      clear H
      go_wp2
      go_meet
      case rel => exact ⟨_, (decide (a1 > 8)), (by first | rfl | (simp; done) | (simp [*]; done)), H', ⟨by first | omega | exact Nat.le_refl _⟩, ⟨by repeat (first | (with_reducible first | exact HI0.out | apply IsS66.alloc | apply IsS66.drewN | apply IsS66.drew | apply IsS66.set_1 | apply IsS66.set_2 | apply IsS66.set_3) | exact HI0.out)⟩, ⟨by repeat (first | (with_reducible first | exact HK.out | apply KeepBut.set_ | apply keep_drewN | apply keep_drew | apply keep_alloc) | exact HK.out)⟩, ⟨by repeat (first | (with_reducible first | exact HB.out | apply below_alloc | apply pw_below_drewN | apply below_drew1 | refine below_set ?_ (IsS66.ge HI0.out)) | exact HB.out)⟩⟩
  case rest =>
    clear HC3
    try clear p2
    try clear c4
    try clear c4b0
    obtain ⟨kq, x13_2, rfl, HA, HJ2, HI0, HK, HB⟩ := hcut
    cases kq with
    | zero => exact absurd HA.out (by simp [estreatref01_Reader_Fix.j0])
    | succ kj2 =>
      have H := HA.out
      clear HA
      simp only [estreatref01_Reader_Fix.j0] at H
      by_cases c5 : x13_2 = true
      · subst c5
        have H1 : ((estreatref01_Reader_Fail.f s0_0 s0_1 s0_2 s0_3 1).bind fun bt320 => (some (0, bt320.1, bt320.2.1, bt320.2.2))) = some (r1, r2, r3, r4) := by rw [if_pos rfl] at H; exact H
        clear H
        have H := H1
        clear H1
        replace H := Option.bind_eq_some_iff.mp H
        obtain ⟨⟨t320, t321, t322⟩, A60, H⟩ := H
        replace H : (some (0, t320, t321, t322)) = some (r1, r2, r3, r4) := H
        have A6 := Aside0.mk A60
        clear A60
        simp only [Option.some.injEq, Prod.mk.injEq] at H
        obtain ⟨rfl, rfl, rfl, rfl⟩ := H
        go_wp2_with (first | ((with_reducible refine gate_callee (f := 75) rfl ?_); refine goesL_ (some 15) rfl rfl Tryd.func75 (by kernel_rfl) rfl #[.pointer (some ⟨g, 0, none⟩), .int .i64 1] rfl (by (try simp only [List.map_toArray, List.map_cons, List.map_nil]); first | done | rfl | (simp only [List.length_drop, List.length_take]; rfl)) ?_; (with_reducible refine (estreatref01_Reader_Fail.calls g s0_0 s0_1 s0_2 s0_3 1 t320 t321 t322 w0 _ ?side1 ?side2 A6.out).mono ?_); (case side1 => repeat (first | (with_reducible first | exact HI0.out | apply IsS66.alloc | apply IsS66.drewN | apply IsS66.drew | apply IsS66.set_1 | apply IsS66.set_2 | apply IsS66.set_3) | exact HI0.out)); (case side2 => repeat (first | (with_reducible first | exact HB.out | apply below_alloc | apply pw_below_drewN | apply below_drew1 | refine below_set ?_ (IsS66.ge HI0.out)) | exact HB.out)); rintro e w7 ⟨rfl, hi, hb, hk⟩; refine ⟨_, rfl, ?_⟩; have n0_ := Aside0.mk (KeepBut.trans (by repeat (first | (with_reducible first | exact HK.out | apply KeepBut.set_ | apply keep_drewN | apply keep_drew | apply keep_alloc) | exact HK.out)) hk (.inl rfl)); have n1_ := Aside0.mk (hb); have n2_ := Aside0.mk (hi); clear HK; clear HB; clear HI0; have HK := n0_; have HB := n1_; have HI0 := n2_; clear n0_ n1_ n2_; (try clear hb); (try clear hb2); (try clear hk); (try clear hi)))
        go_ret
        exact ⟨by first | rfl | (simp [errW_none, errW_some] <;> rfl) | (simp [*, errW_none, errW_some] <;> rfl), by repeat (first | (with_reducible first | exact HI0.out | apply IsS66.alloc | apply IsS66.drewN | apply IsS66.drew | apply IsS66.set_1 | apply IsS66.set_2 | apply IsS66.set_3) | exact HI0.out), by repeat (first | (with_reducible first | exact HB.out | apply below_alloc | apply pw_below_drewN | apply below_drew1 | refine below_set ?_ (IsS66.ge HI0.out)) | exact HB.out), by repeat (first | (with_reducible first | exact HK.out | apply KeepBut.set_ | apply keep_drewN | apply keep_drew | apply keep_alloc) | exact HK.out)⟩
      · replace c5 := Bool.eq_false_iff.mpr c5
        subst c5
        have H1 : ((estreatref01_Reader_Take.f s0_0 s0_1 s0_2 s0_3 a1).bind fun bt323 => (estreatref01_Reader_Fix.l0 kj2 bt323.1 0 (wrap64 ((bt323.1.length : Int) - 1)) s0_0 bt323.2.1 bt323.2.2.1 bt323.2.2.2)) = some (r1, r2, r3, r4) := by rw [if_neg (show ¬ (false = true) by decide)] at H; exact H
        clear H
        have H := H1
        clear H1
        replace H := Option.bind_eq_some_iff.mp H
        obtain ⟨⟨t323, t326, t327, t328⟩, A80, H⟩ := H
        replace H : (estreatref01_Reader_Fix.l0 kj2 t323 0 (wrap64 ((t323.length : Int) - 1)) s0_0 t326 t327 t328) = some (r1, r2, r3, r4) := H
        have A8 := Aside0.mk A80
        clear A80
        have H' := Aside0.mk H
        clear H
        go_wp2_with (first | ((with_reducible refine gate_callee (f := 76) rfl ?_); refine goesL_ (some 18) rfl rfl Tryd.func76 (by kernel_rfl) rfl #[.pointer (some ⟨g, 0, none⟩), .int .i64 a1] rfl (by (try simp only [List.map_toArray, List.map_cons, List.map_nil]); first | done | rfl | (simp only [List.length_drop, List.length_take]; rfl)) ?_; (with_reducible refine (estreatref01_Reader_Take.calls g s0_0 s0_1 s0_2 s0_3 a1 t323 t326 t327 t328 w0 _ ?side1 ?side2 A8.out).mono ?_); (case side1 => repeat (first | (with_reducible first | exact HI0.out | apply IsS66.alloc | apply IsS66.drewN | apply IsS66.drew | apply IsS66.set_1 | apply IsS66.set_2 | apply IsS66.set_3) | exact HI0.out)); (case side2 => repeat (first | (with_reducible first | exact HB.out | apply below_alloc | apply pw_below_drewN | apply below_drew1 | refine below_set ?_ (IsS66.ge HI0.out)) | exact HB.out)); rintro e w9 ⟨v324, rfl, ho0, hi, hb, hk⟩; refine ⟨_, rfl, ?_⟩; have n0_ := Aside0.mk (Kd.R_lower ho0 (keep_size (w := w) (g := g) (row := none) (by repeat (first | (with_reducible first | exact HK.out | apply KeepBut.set_ | apply keep_drewN | apply keep_drew | apply keep_alloc) | exact HK.out)))); have n1_ := Aside0.mk (KeepBut.trans (by repeat (first | (with_reducible first | exact HK.out | apply KeepBut.set_ | apply keep_drewN | apply keep_drew | apply keep_alloc) | exact HK.out)) hk (.inl rfl)); have n2_ := Aside0.mk (hb); have n3_ := Aside0.mk (hi); clear HK; clear HB; clear HI0; have HO325 := n0_; have HK := n1_; have HB := n2_; have HI0 := n3_; clear n0_ n1_ n2_ n3_; (try clear hb); (try clear hb2); (try clear hk); (try clear hi); (try clear ho0); obtain ⟨Ao10, co10, eo10⟩ := Kd.R_slice HO325.out; subst eo10))
        go_loopg [6, 7] kj2 (fun kq v6 v7 w' => ∃ (x6_2 : Int) (x7_2 : Int), v6 = .int .u64 x6_2 ∧ v7 = .int .i64 x7_2 ∧ Aside0 (estreatref01_Reader_Fix.l0 kq t323 x6_2 x7_2 s0_0 t326 t327 t328 = some (r1, r2, r3, r4)) ∧ Aside0 (kq ≤ kj2) ∧ Aside0 (Kd.R (Kd.int .u8) 5 w' w.heap.size (fun _ => True) (.slice Ao10 t323.length co10) t323) ∧ Aside0 (IsS66 w0 w' g s0_0 t326 t327 t328) ∧ Aside0 (KeepBut w w' g none) ∧ Aside0 (Below w0.heap.size w0 w'))
        case atStart => exact ⟨(0), (wrap64 ((t323.length : Int) - 1)), (by first | rfl | (simp; done) | (simp [*]; done)), (by first | rfl | (simp; done) | (simp [*]; done)), H', ⟨Nat.le_refl _⟩, ⟨by (with_reducible repeat (first | apply Kd.R_alloc | apply Kd.R_drewN | apply Kd.R_drew)); exact HO325.out⟩, ⟨by repeat (first | (with_reducible first | exact HI0.out | apply IsS66.alloc | apply IsS66.drewN | apply IsS66.drew | apply IsS66.set_1 | apply IsS66.set_2 | apply IsS66.set_3) | exact HI0.out)⟩, ⟨by repeat (first | (with_reducible first | exact HK.out | apply KeepBut.set_ | apply keep_drewN | apply keep_drew | apply keep_alloc) | exact HK.out)⟩, ⟨by repeat (first | (with_reducible first | exact HB.out | apply below_alloc | apply pw_below_drewN | apply below_drew1 | refine below_set ?_ (IsS66.ge HI0.out)) | exact HB.out)⟩⟩
        case round =>
          clear H'
          try clear p2
          try clear c4
          try clear c4b0
          try clear c5
          try clear p6
          try clear c7
          try clear p2
          obtain ⟨x6_2, x7_2, rfl, rfl, HA, HK2, HO_5, HI0, HK, HB⟩ := hrel
          cases gk with
          | zero => exact absurd HA.out (by simp [estreatref01_Reader_Fix.l0])
          | succ k2 =>
            have H := HA.out
            clear HA
            simp only [estreatref01_Reader_Fix.l0] at H
            by_cases c11 : x7_2 ≥ 0
            · rw [if_pos c11] at H
              have c11b0 : decide (0 ≤ x7_2) = true := decide_eq_true c11
              clear c11
              by_cases c12 : 0 ≤ x7_2
              · rw [if_pos c12] at H
                have c12b0 : decide (0 ≤ x7_2) = true := decide_eq_true c12
                clear c12
                by_cases c13 : x7_2 < (t323.length : Int)
                · rw [if_pos c13] at H
                  have c13b0 : decide (x7_2 < (t323.length : Int)) = true := decide_eq_true c13
                  clear c13
                  have H' := Aside0.mk H
                  clear H
                  have p329 : 0 ≤ (x7_2 : Int) := of_decide_eq_true (by first | (with_reducible assumption) | assumption)
                  have q329 : x7_2 < (t323.length : Int) := of_decide_eq_true (by first | (with_reducible assumption) | assumption)
                  obtain ⟨ad329, e329, hx329_0⟩ := Kd.at_int (Kd.R_reads' HO_5.out).2.2 x7_2 p329 q329
                  cases e329
                  replace p329 := eq_true p329
                  replace q329 := eq_true q329
                  go_wp2
                  go_roundg k2
                  case measure => have := HJ2.out; have := HK2.out; omega
                  case rel => exact ⟨(IntKind.u64.wrap ((IntKind.u64.wrap (256 * x6_2)) + (IntKind.u64.wrap (rd t323 x7_2)))), (wrap64 (x7_2 - 1)), (by first | rfl | (simp; done) | (simp [*]; done)), (by first | rfl | (simp; done) | (simp [*]; done)), H', ⟨by have := HJ2.out; have := HK2.out; omega⟩, ⟨by (with_reducible repeat (first | apply Kd.R_alloc | apply Kd.R_drewN | apply Kd.R_drew)); exact HO_5.out⟩, ⟨by repeat (first | (with_reducible first | exact HI0.out | apply IsS66.alloc | apply IsS66.drewN | apply IsS66.drew | apply IsS66.set_1 | apply IsS66.set_2 | apply IsS66.set_3) | exact HI0.out)⟩, ⟨by repeat (first | (with_reducible first | exact HK.out | apply KeepBut.set_ | apply keep_drewN | apply keep_drew | apply keep_alloc) | exact HK.out)⟩, ⟨by repeat (first | (with_reducible first | exact HB.out | apply below_alloc | apply pw_below_drewN | apply below_drew1 | refine below_set ?_ (IsS66.ge HI0.out)) | exact HB.out)⟩⟩
                · rw [if_neg c13] at H
                  exact absurd H (by simp)
              · rw [if_neg c12] at H
                exact absurd H (by simp)
            · rw [if_neg c11] at H
              have c11b0 : decide (0 ≤ x7_2) = false := decide_eq_false c11
              clear c11
              simp only [Option.some.injEq, Prod.mk.injEq] at H
              obtain ⟨rfl, rfl, rfl, rfl⟩ := H
              go_wp2
              go_ret
              exact ⟨by first | rfl | (simp [errW_none, errW_some] <;> rfl) | (simp [*, errW_none, errW_some] <;> rfl), by repeat (first | (with_reducible first | exact HI0.out | apply IsS66.alloc | apply IsS66.drewN | apply IsS66.drew | apply IsS66.set_1 | apply IsS66.set_2 | apply IsS66.set_3) | exact HI0.out), by repeat (first | (with_reducible first | exact HB.out | apply below_alloc | apply pw_below_drewN | apply below_drew1 | refine below_set ?_ (IsS66.ge HI0.out)) | exact HB.out), by repeat (first | (with_reducible first | exact HK.out | apply KeepBut.set_ | apply keep_drewN | apply keep_drew | apply keep_alloc) | exact HK.out)⟩

/-! ### estreatref02_Size: function 77 -/
def estreatref02_Size.j0 : Nat → Int → Int → Bool → Option (Int)
  | 0, _, _, _ => none
  | k + 1, x0, x1, x19 => if x19 = true then (some (-1)) else (if (wrap64 (8 * (wrap64 (Int.tdiv (wrap64 (x0 * x1)) 8)))) < (wrap64 (x0 * x1)) then (some (wrap64 ((wrap64 (Int.tdiv (wrap64 (x0 * x1)) 8)) + 1))) else (some (wrap64 (Int.tdiv (wrap64 (x0 * x1)) 8))))
def estreatref02_Size.f (k : Nat) (a0 : Int) (a1 : Int) : Option (Int) := if a0 < 0 then (estreatref02_Size.j0 k a0 a1 true) else (if a0 > 65536 then (estreatref02_Size.j0 k a0 a1 true) else (if a1 < 0 then (estreatref02_Size.j0 k a0 a1 true) else (estreatref02_Size.j0 k a0 a1 (decide (a1 > 64)))))
set_option maxHeartbeats 8000000 in
set_option maxRecDepth 100000 in
theorem estreatref02_Size.calls (k : Nat) (a0 : Int) (a1 : Int) (r : Int) (w : World) (h : estreatref02_Size.f k a0 a1 = some r) :
    Calls Tryd.prog 77 #[.int .i64 a0, .int .i64 a1] w fun e w' => e = .returned (.int .i64 r) ∧ Drawn0 w w' := by
  have H : (if a0 < 0 then (estreatref02_Size.j0 k a0 a1 true) else (if a0 > 65536 then (estreatref02_Size.j0 k a0 a1 true) else (if a1 < 0 then (estreatref02_Size.j0 k a0 a1 true) else (estreatref02_Size.j0 k a0 a1 (decide (a1 > 64)))))) = some r := h
  clear h
  have HC3 := Aside0.mk H
  clear H
  go_enter Tryd.func77, Tryd.ntmps77
  go_upto_region 1 with (fail)
  go_cut [19] (fun v19 wc => ∃ (kq : Nat) (x19_2 : Bool), v19 = .bool x19_2 ∧ Aside0 (estreatref02_Size.j0 kq a0 a1 x19_2 = some r) ∧ Aside0 (kq ≤ k) ∧ Drawn0 w wc)
  case first =>
    have H := HC3.out
    clear HC3
    by_cases c4 : a0 < 0
    · rw [if_pos c4] at H
      have c4b0 : decide (a0 < 0) = true := decide_eq_true c4
      clear c4
      (first | rw [c4b0] | (simp only [i64_w, i32_w]; rw [c4b0]) | skip)
      have H' := Aside0.mk H
      clear H
      go_wp2
      go_meet
      case rel => exact ⟨_, (true), (by first | rfl | (simp; done) | (simp [*]; done)), H', ⟨by first | omega | exact Nat.le_refl _⟩, by repeat (first | exact Drawn0.refl _ | apply Drawn0.step)⟩
    · rw [if_neg c4] at H
      have c4b0 : decide (a0 < 0) = false := decide_eq_false c4
      clear c4
      (first | rw [c4b0] | (simp only [i64_w, i32_w]; rw [c4b0]) | skip)
      by_cases c5 : a0 > 65536
      · rw [if_pos c5] at H
        have c5b0 : decide (65536 < a0) = true := decide_eq_true c5
        clear c5
        have H' := Aside0.mk H
        clear H
        go_wp2
        go_meet
        case rel => exact ⟨_, (true), (by first | rfl | (simp; done) | (simp [*]; done)), H', ⟨by first | omega | exact Nat.le_refl _⟩, by repeat (first | exact Drawn0.refl _ | apply Drawn0.step)⟩
      · rw [if_neg c5] at H
        have c5b0 : decide (65536 < a0) = false := decide_eq_false c5
        clear c5
        by_cases c6 : a1 < 0
        · rw [if_pos c6] at H
          have c6b0 : decide (a1 < 0) = true := decide_eq_true c6
          clear c6
          have H' := Aside0.mk H
          clear H
          go_wp2
          go_meet
          case rel => exact ⟨_, (true), (by first | rfl | (simp; done) | (simp [*]; done)), H', ⟨by first | omega | exact Nat.le_refl _⟩, by repeat (first | exact Drawn0.refl _ | apply Drawn0.step)⟩
        · rw [if_neg c6] at H
          have c6b0 : decide (a1 < 0) = false := decide_eq_false c6
          clear c6
          have H' := Aside0.mk H
          clear H
          go_wp2
          go_meet
          case rel => exact ⟨_, (decide (a1 > 64)), (by first | rfl | (simp; done) | (simp [*]; done)), H', ⟨by first | omega | exact Nat.le_refl _⟩, by repeat (first | exact Drawn0.refl _ | apply Drawn0.step)⟩
  case rest =>
    clear HC3
    try clear p2
    try clear c4
    try clear c4b0
    try clear c5
    try clear c5b0
    try clear c6
    try clear c6b0
    obtain ⟨kq, x19_2, rfl, HA, HJ2, ⟨mc2, rfl⟩⟩ := hcut
    cases kq with
    | zero => exact absurd HA.out (by simp [estreatref02_Size.j0])
    | succ kj2 =>
      have H := HA.out
      clear HA
      simp only [estreatref02_Size.j0] at H
      by_cases c7 : x19_2 = true
      · subst c7
        have H1 : (some (-1)) = some r := by rw [if_pos rfl] at H; exact H
        clear H
        have H := H1
        clear H1
        obtain rfl := Option.some.inj H
        go_wp2
        go_ret
        exact ⟨by first | rfl | (simp; done) | (simp [*]; done), by repeat (first | exact Drawn0.refl _ | apply Drawn0.step)⟩
      · replace c7 := Bool.eq_false_iff.mpr c7
        subst c7
        have H1 : (if (wrap64 (8 * (wrap64 (Int.tdiv (wrap64 (a0 * a1)) 8)))) < (wrap64 (a0 * a1)) then (some (wrap64 ((wrap64 (Int.tdiv (wrap64 (a0 * a1)) 8)) + 1))) else (some (wrap64 (Int.tdiv (wrap64 (a0 * a1)) 8)))) = some r := by rw [if_neg (show ¬ (false = true) by decide)] at H; exact H
        clear H
        have H := H1
        clear H1
        by_cases c8 : (wrap64 (8 * (wrap64 (Int.tdiv (wrap64 (a0 * a1)) 8)))) < (wrap64 (a0 * a1))
        · rw [if_pos c8] at H
          have c8b0 : decide ((wrap64 (8 * (wrap64 (Int.tdiv (wrap64 (a0 * a1)) 8)))) < (wrap64 (a0 * a1))) = true := decide_eq_true c8
          clear c8
          obtain rfl := Option.some.inj H
          go_wp2
          go_ret
          exact ⟨by first | rfl | (simp; done) | (simp [*]; done), by repeat (first | exact Drawn0.refl _ | apply Drawn0.step)⟩
        · rw [if_neg c8] at H
          have c8b0 : decide ((wrap64 (8 * (wrap64 (Int.tdiv (wrap64 (a0 * a1)) 8)))) < (wrap64 (a0 * a1))) = false := decide_eq_false c8
          clear c8
          obtain rfl := Option.some.inj H
          go_wp2
          go_ret
          exact ⟨by first | rfl | (simp; done) | (simp [*]; done), by repeat (first | exact Drawn0.refl _ | apply Drawn0.step)⟩

/-! ### estreatref02_bit: function 78 -/
def estreatref02_bit.f (a0 : Int) (a1 : Int) : Option (Bool) := if 0 ≤ (IntKind.u64.wrap (a1)) then (some ((Int.tmod (shr .u64 a0 (IntKind.u64.wrap (a1))) 2) == 1)) else (none)
set_option maxHeartbeats 8000000 in
set_option maxRecDepth 100000 in
theorem estreatref02_bit.calls (a0 : Int) (a1 : Int) (r : Bool) (w : World) (h : estreatref02_bit.f a0 a1 = some r) :
    Calls Tryd.prog 78 #[.int .u64 a0, .int .i64 a1] w fun e w' => e = .returned (.bool r) ∧ Drawn0 w w' := by
  have H : (if 0 ≤ (IntKind.u64.wrap (a1)) then (some ((Int.tmod (shr .u64 a0 (IntKind.u64.wrap (a1))) 2) == 1)) else (none)) = some r := h
  clear h
  obtain ⟨ji3, hji3⟩ : ∃ j_ : Int, (IntKind.u64.wrap (a1)) = j_ := ⟨_, rfl⟩
  replace H : (if 0 ≤ (ji3) then (some ((Int.tmod (shr .u64 a0 (ji3)) 2) == 1)) else (none)) = some r := by first | (rw [hji3] at H; exact H) | (simp only [hji3] at H ⊢; exact H)
  by_cases c4 : 0 ≤ (ji3)
  · rw [if_pos c4] at H
    have c4b0 := eq_true c4
    have c4b1 : decide (0 ≤ (ji3)) = true := decide_eq_true c4
    clear c4
    obtain ⟨ji5, hji5⟩ : ∃ j_ : Int, (shr .u64 a0 (ji3)) = j_ := ⟨_, rfl⟩
    replace H : (some ((Int.tmod (ji5) 2) == 1)) = some r := by first | (rw [hji5] at H; exact H) | (simp only [hji5] at H ⊢; exact H)
    have hji5_ : (a0 / 2 ^ min (ji3).toNat 64) = ji5 := hji5
    have hji5z : (ji3) ≤ 64 → (a0 / 2 ^ (ji3).toNat) = ji5 := shr_small hji5
    obtain rfl := Option.some.inj H
    go_enter Tryd.func78, Tryd.ntmps78
    go_wp2
    go_ret
    exact ⟨by first | rfl | (simp; done) | (simp only [← hji3, ← hji5] <;> (first | rfl | simp)) | (simp [*]; done), by repeat (first | exact Drawn0.refl _ | apply Drawn0.step)⟩
  · rw [if_neg c4] at H
    exact absurd H (by simp)

end Go.Proofs.YtieddojplhmhgaaDoor.PTextsGets
