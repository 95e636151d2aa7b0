/- WRITTEN BY A PROGRAM of this session (wip/tool: a turned copy of the printer), out of the translation: Lean functions with the answers of the Go functions, and the proofs that the Go code comes to them. -/
import Derived.Test.YtjmhfbgpebgcmaaDoorPNumReadsx0
namespace Go.Proofs.YtjmhfbgpebgcmaaDoor.PNumReads
open Go.RowKit Go.Proofs.YtjmhfbgpebgcmaaDoorW.PrintWords Go.Proofs.YtjmhfbgpebgcmaaDoorW.PrintLast Go.Proofs.YtjmhfbgpebgcmaaDoorW.PrintMore
attribute [local go_sem] max2_int min2_int max_two min_two max_three min_three max_four min_four   -- for this text's walks alone
set_option linter.unusedVariables false
set_option linter.unusedSimpArgs false

/-! ### bytes_Clone: function 48 -/
def bytes_Clone.f (l0 : List Int) : Option (List Int) := if l0.length * 1 ≤ 140737488355328 then some l0 else none
theorem bytes_Clone.info : (Tryd.prog.info? 5).map (fun i => (i.zero, i.size, i.bytes)) = some (some (.int .u8 0), 1, 1) := by kernel_rfl
theorem bytes_Clone.under : Tryd.prog.underlying 23 = some (.slice 5) := by kernel_rfl
set_option maxHeartbeats 4000000 in
theorem bytes_Clone.calls (A0 : Option Addr) (c0 : Nat) (l0 : List Int) (r : List Int) (w : World) (hr0 : (Kd.int .u8).C w A0 l0.length l0) (hc0 : l0.length ≤ c0) (h : bytes_Clone.f l0 = some r) :
    Calls Tryd.prog 48 #[.slice A0 l0.length c0] w fun e w' => ∃ v0_ : Value, e = .returned v0_ ∧ (Kd.int .u8).R 5 w' w.heap.size (fun _ => True) v0_ r ∧ Below w.heap.size w w' := by
  unfold bytes_Clone.f at h
  by_cases hl : l0.length * 1 ≤ 140737488355328
  · rw [if_pos hl] at h
    obtain rfl := Option.some.inj h
    cases A0 with
    | none =>
      have h0 : l0 = [] := by
        rcases l0 with _ | ⟨x, l⟩
        · rfl
        · obtain ⟨ad, e, _⟩ := hr0.2.2 (by simp)
          cases e
      subst h0
      have e1 : ∀ w, (binOp BinOp.eql 23 (.slice none ([] : List Int).length c0) (.slice none 0 0)).run Tryd.prog w = .ok (.bool true) w := fun w => by kernel_rfl
      simp only [List.length_nil] at e1 ⊢
      go_enter Tryd.func48, Tryd.ntmps48
      go_wp2
      go_ret
      exact ⟨_, rfl, Kd.R_nil _ _ _ _ _, Below.refl _ _⟩
    | some ad =>
      have e1 : ∀ w, (binOp BinOp.eql 23 (.slice (some ad) l0.length c0) (.slice none 0 0)).run Tryd.prog w = .ok (.bool false) w := fun w => by kernel_rfl
      have hB1 : Below w.heap.size w (w.alloc (.cells #[] 5)) := below_alloc (Below.refl _ _) _
      have hR1 : (Kd.int .u8).R 5 (w.alloc (.cells #[] 5)) w.heap.size (fun _ => True) (.slice (some ⟨w.heap.size, 0, none⟩) 0 0) [] :=
        Kd.R_of_own (h1 := fun _ => rfl) (by simpa [encs] using World.ownsRow_lit (base := w.heap.size) (e := 5) (size := 1) w #[] 0 (Nat.le_refl _) (by decide) (by simp)) (fun _ _ => trivial)
      have hC1 := Kd.C_below hr0 hB1
      go_enter Tryd.func48, Tryd.ntmps48
      go_wp2_with ((with_reducible refine gate_builtin (b := .append) (xs := #[.tmp 5, .tmp 6]) rfl ?_); at_builtin; refine Kd.R_append_rows (Kd.int .u8) (w0 := w) w.heap.size rfl (.tmp 5) (.tmp 6) 23 5 (.int .u8 0) 1 rfl bytes_Clone.under bytes_Clone.info rfl (by decide) (by omega) _ [] l0 _ _ _ (fun _ => True) (fun _ => False) rfl rfl hR1 hC1 (fun _ _ h => h) (fun _ h => h.elim) (fun _ _ => trivial) hB1 (by simp) (by simpa using hl) ?_; intro v1 w1 ho hb hg hat)
      go_ret
      exact ⟨_, rfl, by simpa using ho, hb⟩
  · rw [if_neg hl] at h; cases h

/-- What a num.Reader's state leads to beside its own block: its bytes' block and its fault's block, told by their types. -/
def NeRd (W : World) (g : Nat) (x : Option Nat) : Prop := some g ≠ x ∧ ∀ F cs t, (t = 79 ∨ t = 5) → W.heap[F]? = some (.cells cs t (0, 0)) → some F ≠ x
/-- An error's value: none, or a fault at a block of its own. -/
def FaultAt (w0 W : World) (ev : Value) (e at_ : Int) : Prop :=
  (e = 0 ∧ at_ = 0 ∧ ev = .nilIface) ∨ (e ≠ 0 ∧ ∃ F, ev = .iface 74 (.pointer (some ⟨F, 0, none⟩)) ∧ W.heap[F]? = some (.cells #[.int .i64 at_, .iface 30 (.int .i64 e)] 79 (0, 0)) ∧ w0.heap.size ≤ F)
theorem FaultAt.same {w0 W W1 : World} {ev : Value} {e at_ : Int} (h : FaultAt w0 W ev e at_) (hk : ∀ (F : Nat) (cs : Array Value), W.heap[F]? = some (.cells cs 79 (0, 0)) → W1.heap[F]? = W.heap[F]?) : FaultAt w0 W1 ev e at_ := by
  rcases h with h | ⟨h0, F, h1, h2, h3⟩
  · exact .inl h
  · exact .inr ⟨h0, F, h1, (hk F _ h2).trans h2, h3⟩
/-- The variable of package errors that calls lead to is as the program's start left it. -/
def HG (w : World) : Prop := w.cell? ⟨0, 0, none⟩ = some (.iface 109 (.agg #[.pointer (some ⟨1, 69, none⟩)]))
theorem HG.heap {w W : World} (h : HG w) (hk : ∀ k, k < w.heap.size → W.heap[k]? = w.heap[k]?) : HG W := by
  have h0 : 0 < w.heap.size := Go.block_lt_of_cell (a := ⟨0, 0, none⟩) h
  unfold HG World.cell? at *
  rw [hk 0 h0]; exact h
theorem HG.below {w W : World} (hB : Below w.heap.size w W) (h : HG w) : HG W := h.heap (fun k hk => hB.block k hk)
/-- A num.Reader at block g of W. -/
def IsS71 (w0 W : World) (g : Nat) (f0 : List Int) (f1 : Int) (f2 : Int) (f3 : Int) : Prop :=
  ∃ A0 c0 ev, W.heap[g]? = some (.cells #[.slice A0 f0.length c0, .int .i64 f1, ev] 71 (0, 0)) ∧ w0.heap.size ≤ g ∧ (Kd.int .u8).R 5 W w0.heap.size (fun k => some k = (Value.slice A0 f0.length c0).ownBlock) (.slice A0 f0.length c0) f0 ∧ FaultAt w0 W ev f2 f3 ∧ HG w0
section
variable {w0 W : World} {g : Nat} {f0 : List Int} {f1 f2 f3 : Int}
theorem IsS71.same {W1 : World} (h : IsS71 w0 W g f0 f1 f2 f3) (hk : ∀ (k : Nat) (cs : Array Value) (t : Nat), (t = 71 ∧ k = g ∨ t = 79 ∨ t = 5) → W.heap[k]? = some (.cells cs t (0, 0)) → W1.heap[k]? = W.heap[k]?) : IsS71 w0 W1 g f0 f1 f2 f3 := by
  obtain ⟨A, c, ev, hb, hg, hr, hf, hG⟩ := h
  refine ⟨A, c, ev, (hk g _ _ (.inl ⟨rfl, rfl⟩) hb).trans hb, hg, ?_, hf.same (fun F cs hF => hk F cs _ (.inr (.inl rfl)) hF), hG⟩
  have hty := Kd.R_typed hr
  exact Kd.R_step hr (fun k ho hlt => by obtain ⟨cs, hcs⟩ := hty k ho.symm; exact hk k cs _ (.inr (.inr rfl)) hcs)
theorem IsS71.grown {W1 : World} {row : Option Nat} (h : IsS71 w0 W g f0 f1 f2 f3) (hw : W.grownBy W1 row) (hne : some g ≠ row ∧ ∀ F cs t, (t = 79 ∨ t = 5) → W.heap[F]? = some (.cells cs t (0, 0)) → some F ≠ row) : IsS71 w0 W1 g f0 f1 f2 f3 :=
  h.same (fun k cs t ht hc => hw.block k (blk_lt hc) (by
    rcases ht with ⟨_, rfl⟩ | ht
    · exact hne.1
    · exact hne.2 k cs t ht hc))
theorem IsS71.fresh (h : IsS71 w0 W g f0 f1 f2 f3) : ∀ k, W.heap.size ≤ k → k ≠ g := by
  obtain ⟨A, c, ev, hb, _⟩ := h
  exact Kd.freshB hb
theorem IsS71.kept {W1 : World} {S : Nat → Prop} (h : IsS71 w0 W g f0 f1 f2 f3) (hk : Kept W W1 S) (hne : ∀ k cs t, (t = 71 ∧ k = g ∨ t = 79 ∨ t = 5) → W.heap[k]? = some (.cells cs t (0, 0)) → ¬ S k) : IsS71 w0 W1 g f0 f1 f2 f3 :=
  h.same (fun k cs t ht hc => hk.2 k (blk_lt hc) (hne k cs t ht hc))
theorem IsS71.below {W1 : World} (h : IsS71 w0 W g f0 f1 f2 f3) (hw : Below W.heap.size W W1) : IsS71 w0 W1 g f0 f1 f2 f3 := h.same (fun k _ _ _ hc => hw.block k (blk_lt hc))
theorem IsS71.alloc (h : IsS71 w0 W g f0 f1 f2 f3) (o : Obj) : IsS71 w0 (W.alloc o) g f0 f1 f2 f3 := h.below (below_alloc (Below.refl _ _) o)
theorem IsS71.drewN (h : IsS71 w0 W g f0 f1 f2 f3) (m : Nat) : IsS71 w0 (W.drewN m) g f0 f1 f2 f3 := h.below (pw_below_drewN (Below.refl _ _) m)
theorem IsS71.drew (h : IsS71 w0 W g f0 f1 f2 f3) : IsS71 w0 W.drew g f0 f1 f2 f3 := h.below (below_drew1 (Below.refl _ _))
theorem IsS71.at_ {w' : World} {m : Nat} (hq : W.drewN m = w') (h : IsS71 w0 W g f0 f1 f2 f3) : IsS71 w0 w' g f0 f1 f2 f3 := by subst hq; exact IsS71.drewN h m
theorem IsS71.lt (h : IsS71 w0 W g f0 f1 f2 f3) : g < W.heap.size := by
  obtain ⟨A, c, ev, hb, _⟩ := h
  exact blk_lt hb
theorem IsS71.ge (h : IsS71 w0 W g f0 f1 f2 f3) : w0.heap.size ≤ g := by
  obtain ⟨A, c, ev, _, hg, _⟩ := h
  exact hg
theorem IsS71.ne_blk {a : Nat} {cs : Array Value} {t : TypeId} {fr : Nat × Nat} (h : IsS71 w0 W g f0 f1 f2 f3) (hb2 : W.heap[a]? = some (.cells cs t fr)) (ht : t ≠ 71) : g ≠ a := by
  obtain ⟨A, c, ev, hb, _⟩ := h
  rintro rfl
  rw [hb] at hb2
  injection hb2 with hb2
  injection hb2 with _ ht2
  exact ht ht2.symm
theorem IsS71.cellset (h : IsS71 w0 W g f0 f1 f2 f3) (j : Nat) (u : Value) : ∃ A0 c0 ev, (W.setCell ⟨g, j, none⟩ u).heap[g]? = some (.cells (#[.slice A0 f0.length c0, .int .i64 f1, ev].setIfInBounds j u) 71 (0, 0)) ∧ w0.heap.size ≤ g ∧ (Kd.int .u8).R 5 (W.setCell ⟨g, j, none⟩ u) w0.heap.size (fun k => some k = (Value.slice A0 f0.length c0).ownBlock) (.slice A0 f0.length c0) f0 ∧ FaultAt w0 (W.setCell ⟨g, j, none⟩ u) ev f2 f3 ∧ HG w0 := by
  obtain ⟨A, c, ev, hb, hg, hr, hf, hG⟩ := h
  have hne := Kd.R_ne hr hb (by decide)
  refine ⟨A, c, ev, blk_set hb j u, hg, Kd.R_far hr (fun k hk (e : k = g) => hne (by rw [← e]; exact hk)) u, hf.same (fun F cs hF => Below.heap_setCell W ⟨g, j, none⟩ u F (fun e => ?_)), hG⟩
  rw [show F = g from e, hb] at hF
  injection hF with hF
  injection hF with _ ht
  exact absurd ht (by decide)
theorem IsS71.set_1 (h : IsS71 w0 W g f0 f1 f2 f3) (x : Int) : IsS71 w0 (W.setCell ⟨g, 1, none⟩ (.int .i64 x)) g f0 x f2 f3 := by
  obtain ⟨A, c, ev, hb, hg, hr, hf, hG⟩ := h.cellset 1 (.int .i64 x)
  exact ⟨A, c, ev, by simpa using hb, hg, hr, hf, hG⟩
theorem IsS71.fail (h : IsS71 w0 W g f0 f1 f2 f3) {e : Int} (he : e ≠ 0) (at_ : Int) : IsS71 w0 ((W.setCell ⟨g, 2, none⟩ (.iface 74 (.pointer (some ⟨W.heap.size, 0, none⟩)))).alloc (.cells #[.int .i64 at_, .iface 30 (.int .i64 e)] 79)) g f0 f1 e at_ := by
  have hlt := h.lt
  obtain ⟨A, c, ev, hb, hg, hr, hf, hG⟩ := h.cellset 2 (.iface 74 (.pointer (some ⟨W.heap.size, 0, none⟩)))
  refine ⟨A, c, _, blk_below hb (below_alloc (Below.refl _ _) _), hg, Kd.R_below hr (below_alloc (Below.refl _ _) _), .inr ⟨he, W.heap.size, by simp, ?_, by omega⟩, hG⟩
  have := heap_alloc_new (W.setCell ⟨g, 2, none⟩ (.iface 74 (.pointer (some ⟨W.heap.size, 0, none⟩)))) (.cells #[.int .i64 at_, .iface 30 (.int .i64 e)] 79)
  simpa using this
variable {α : Type} {d : Kd α} {e : Nat} {base : Nat} {ok : Nat → Prop} {v : Value} {xs : List α}
theorem IsS71.own_neN (h : IsS71 w0 W g f0 f1 f2 f3) (ho : Kd.N d e W base ok v xs) (ht : e ≠ 71 ∧ e ≠ 79 ∧ e ≠ 5) : NeRd W g v.ownBlock := by
  obtain ⟨A, c, ev, hb, _⟩ := h
  refine ⟨Kd.N_ne ho hb ht.1, ?_⟩
  rintro F cs t (rfl | rfl) hF
  · exact Kd.N_ne ho hF ht.2.1
  · exact Kd.N_ne ho hF ht.2.2
theorem IsS71.own_ne (h : IsS71 w0 W g f0 f1 f2 f3) (ho : Kd.R d e W base ok v xs) (ht : e ≠ 71 ∧ e ≠ 79 ∧ e ≠ 5) : NeRd W g v.ownBlock := by
  obtain ⟨A, c, ev, hb, _⟩ := h
  refine ⟨Kd.R_ne ho hb ht.1, ?_⟩
  rintro F cs t (rfl | rfl) hF
  · exact Kd.R_ne ho hF ht.2.1
  · exact Kd.R_ne ho hF ht.2.2
theorem IsS71.apart (h : IsS71 w0 W g f0 f1 f2 f3) (ho : Kd.R d e W base ok v xs) (ht : ∀ q, q ∈ e :: d.E → q ≠ 71) : Kd.R d e W base (fun k => ok k ∧ k ≠ g) v xs := by
  obtain ⟨A, c, ev, hb, _⟩ := h
  exact Kd.R_types ho hb ht
theorem IsS71.own_neQ (h : IsS71 w0 W g f0 f1 f2 f3) (ho : Kd.Q d e W base ok v xs) (ht : e ≠ 71 ∧ e ≠ 79 ∧ e ≠ 5) : NeRd W g v.ownBlock := by
  obtain ⟨A, c, ev, hb, _⟩ := h
  refine ⟨Kd.Q_ne ho hb ht.1, ?_⟩
  rintro F cs t (rfl | rfl) hF
  · exact Kd.Q_ne ho hF ht.2.1
  · exact Kd.Q_ne ho hF ht.2.2
theorem IsS71.apartQ (h : IsS71 w0 W g f0 f1 f2 f3) (ho : Kd.Q d e W base ok v xs) (ht : ∀ q, q ∈ e :: d.E → q ≠ 71) : Kd.Q d e W base (fun k => ok k ∧ k ≠ g) v xs := by
  obtain ⟨A, c, ev, hb, _⟩ := h
  exact Kd.Q_types ho hb ht
theorem IsS71.own_neS (h : IsS71 w0 W g f0 f1 f2 f3) (ho : Kd.S d e W base ok v xs) (ht : e ≠ 71 ∧ e ≠ 79 ∧ e ≠ 5) : NeRd W g v.ownBlock := by
  obtain ⟨A, c, ev, hb, _⟩ := h
  refine ⟨Kd.S_ne ho hb ht.1, ?_⟩
  rintro F cs t (rfl | rfl) hF
  · exact Kd.S_ne ho hF ht.2.1
  · exact Kd.S_ne ho hF ht.2.2
theorem IsS71.apartS (h : IsS71 w0 W g f0 f1 f2 f3) (ho : Kd.S d e W base ok v xs) (ht : ∀ q, q ∈ e :: d.E → q ≠ 71) : Kd.S d e W base (fun k => ok k ∧ k ≠ g) v xs := by
  obtain ⟨A, c, ev, hb, _⟩ := h
  exact Kd.S_types ho hb ht
end


/-! ### num_NewReader: function 13 -/
def num_NewReader.f (l0 : List Int) : Option (List Int × Int × Int × Int) := if l0.length * 1 ≤ 140737488355328 then some (l0, 0, 0, 0) else none
set_option maxHeartbeats 4000000 in
theorem num_NewReader.calls (A0 : Option Addr) (c0 : Nat) (l0 : List Int) (r1 : List Int) (r2 : Int) (r3 : Int) (r4 : Int) (w0 w : World) (hB : Below w0.heap.size w0 w) (hr0 : (Kd.int .u8).C w A0 l0.length l0) (hc0 : l0.length ≤ c0) (hG : HG w0) (h : num_NewReader.f l0 = some (r1, r2, r3, r4)) :
    Calls Tryd.prog 13 #[.slice A0 l0.length c0] w fun e w' => ∃ g_ : Nat, e = .returned (.pointer (some ⟨g_, 0, none⟩)) ∧ IsS71 w0 w' g_ r1 r2 r3 r4 ∧ Below w0.heap.size w0 w' ∧ Below w.heap.size w w' := by
  unfold num_NewReader.f at h
  by_cases hl : l0.length * 1 ≤ 140737488355328
  · rw [if_pos hl] at h
    simp only [Option.some.injEq, Prod.mk.injEq] at h
    obtain ⟨rfl, rfl, rfl, rfl⟩ := h
    have hf : bytes_Clone.f l0 = some l0 := by unfold bytes_Clone.f; rw [if_pos hl]
    go_enter Tryd.func13, Tryd.ntmps13
    go_wp2_with (go_at_call 48; refine (bytes_Clone.calls A0 c0 l0 l0 w hr0 hc0 hf).mono ?_; rintro e w' ⟨v, rfl, hR, hB1⟩; obtain ⟨A, c, rfl⟩ := Kd.R_slice hR)
    go_ret
    have hB2 := below_step hB hB1
    have hR2 := Kd.R_lower hR (below_size hB)
    have hR3 : (Kd.int .u8).R 5 w' w0.heap.size (fun k => some k = (Value.slice A l0.length c).ownBlock) (.slice A l0.length c) l0 := Kd.R_of_own (h1 := fun _ => rfl) (Kd.own_of_R hR2) (fun k hk => hk.symm)
    exact ⟨_, rfl, ⟨A, c, .nilIface, by simpa using heap_alloc_new w' _, below_size hB2, Kd.R_below hR3 (below_alloc (Below.refl _ _) _), .inl ⟨rfl, rfl, rfl⟩, hG⟩, below_alloc hB2 _, below_alloc hB1 _⟩
  · rw [if_neg hl] at h; cases h

/-! ### num_Reader_ok: function 49 -/
theorem IsS71.open {w0 W : World} {g : Nat} {f0 : List Int} {f1 f2 f3 : Int} (h : IsS71 w0 W g f0 f1 f2 f3) :
    ∃ A0 c0 ev, W.heap[g]? = some (.cells #[.slice A0 f0.length c0, .int .i64 f1, ev] 71 (0, 0)) ∧ W.cell? ⟨g, 0, none⟩ = some (.slice A0 f0.length c0) ∧ W.cell? ⟨g, 1, none⟩ = some (.int .i64 f1) ∧ W.cell? ⟨g, 2, none⟩ = some ev ∧ (∀ j, W.frozen? ⟨g, j, none⟩ = false) ∧
      (Kd.int .u8).R 5 W w0.heap.size (fun k => some k = (Value.slice A0 f0.length c0).ownBlock) (.slice A0 f0.length c0) f0 ∧ FaultAt w0 W ev f2 f3 := by
  obtain ⟨A, c, ev, hb, hg, hr, hf, hG⟩ := h
  exact ⟨A, c, ev, hb, (blk_cell hb 0).trans rfl, (blk_cell hb 1).trans rfl, (blk_cell hb 2).trans rfl, fun j => by simp [World.frozen?, hb], hr, hf⟩
theorem FaultAt.eqNil {w0 W : World} {ev : Value} {e at_ : Int} (h : FaultAt w0 W ev e at_) (w : World) : (binOp BinOp.eql 69 ev .nilIface).run Tryd.prog w = .ok (.bool (decide (e = 0))) w := by
  rcases h with ⟨rfl, rfl, rfl⟩ | ⟨h0, F, rfl, _⟩
  · kernel_rfl
  · rw [decide_eq_false h0]; kernel_rfl
theorem FaultAt.guardNil {w0 W : World} {ev : Value} {e at_ : Int} (h : FaultAt w0 W ev e at_) (t : Nat) (w : World) : (eqGuard BinOp.eql 69 (Operand.tmp t) (Operand.const Value.nilIface) ev Value.nilIface).run Tryd.prog w = .ok () w := by
  rcases h with ⟨rfl, rfl, rfl⟩ | ⟨h0, F, rfl, _⟩
  · kernel_rfl
  · kernel_rfl
theorem num_Reader_ok.walk (g : Nat) (s0_0 : List Int) (s0_1 : Int) (s0_2 : Int) (s0_3 : Int) (w0 w : World) (hI : IsS71 w0 w g s0_0 s0_1 s0_2 s0_3) :
    Calls Tryd.prog 49 #[.pointer (some ⟨g, 0, none⟩)] w fun e w' => e = .returned (.bool (decide (s0_2 = 0))) ∧ w' = w := by
  obtain ⟨A, c, ev, hb, hc0, hc1, hc2, hfz, hr, hf⟩ := hI.open
  have hq := hf.eqNil
  have hq2 := hf.guardNil
  have e1 : ∀ w, (binOp BinOp.neq 26 (.pointer (some ⟨g, 0, none⟩)) (.pointer none)).run Tryd.prog w = .ok (.bool true) w := fun w => by kernel_rfl
  go_enter Tryd.func49, Tryd.ntmps49
  go_wp2
  go_ret
  exact ⟨rfl, rfl⟩
def num_Reader_ok.f (s0_0 : List Int) (s0_1 : Int) (s0_2 : Int) (s0_3 : Int) : Option (Bool × Int × Int × Int) := some (decide (s0_2 = 0), s0_1, s0_2, s0_3)
theorem num_Reader_ok.calls (g : Nat) (s0_0 : List Int) (s0_1 : Int) (s0_2 : Int) (s0_3 : Int) (r1 : Bool) (r2 r3 r4 : Int) (w0 w : World) (hI : IsS71 w0 w g s0_0 s0_1 s0_2 s0_3) (hB : Below w0.heap.size w0 w) (h : num_Reader_ok.f s0_0 s0_1 s0_2 s0_3 = some (r1, r2, r3, r4)) :
    Calls Tryd.prog 49 #[.pointer (some ⟨g, 0, none⟩)] w fun e w' => e = .returned (.bool r1) ∧ IsS71 w0 w' g s0_0 r2 r3 r4 ∧ Below w0.heap.size w0 w' ∧ KeepBut w w' g none := by
  simp only [num_Reader_ok.f, Option.some.injEq, Prod.mk.injEq] at h
  obtain ⟨rfl, rfl, rfl, rfl⟩ := h
  refine (num_Reader_ok.walk g s0_0 s0_1 s0_2 s0_3 w0 w hI).mono ?_
  rintro e w' ⟨rfl, rfl⟩
  exact ⟨rfl, hI, hB, KeepBut.refl _ _ _⟩

/-! ### num_Reader_Fail: function 17 -/
/-- What Fail does: nothing, or a new fault is put into the state. -/
def num_Reader_Fail.next (e at_ on f : Int) : Int × Int := if e = 0 ∧ f ≠ 0 then (f, at_) else (e, on)
set_option maxHeartbeats 4000000 in
theorem num_Reader_Fail.walk (g : Nat) (s0_0 : List Int) (s0_1 : Int) (s0_2 : Int) (s0_3 : Int) (a1 : Int) (w0 w : World) (hI : IsS71 w0 w g s0_0 s0_1 s0_2 s0_3) (hB : Below w0.heap.size w0 w) :
    Calls Tryd.prog 17 #[.pointer (some ⟨g, 0, none⟩), .int .i64 a1] w fun e w' => e = .returned (.tuple #[]) ∧ IsS71 w0 w' g s0_0 s0_1 (num_Reader_Fail.next s0_2 s0_1 s0_3 a1).1 (num_Reader_Fail.next s0_2 s0_1 s0_3 a1).2 ∧ Below w0.heap.size w0 w' ∧ KeepBut w w' g none := by
  have hI0 := hI
  obtain ⟨A, c, ev, hb, hc0, hc1, hc2, hfz, hr, hf⟩ := hI.open
  have hg := hI.ge
  have hlt := hI.lt
  by_cases h0 : s0_2 = 0
  · have d0 : decide (s0_2 = 0) = true := decide_eq_true h0
    by_cases h1 : a1 = 0
    · rw [show num_Reader_Fail.next s0_2 s0_1 s0_3 a1 = (s0_2, s0_3) from if_neg (by simp [h1])]
      subst h1
      go_enter Tryd.func17, Tryd.ntmps17
      go_wp2_with (go_at_call 49; refine (num_Reader_ok.walk g _ _ _ _ w0 w hI0).mono ?_; rintro e w' ⟨he, rfl⟩; rw [d0] at he; subst he)
      go_end0
      exact ⟨rfl, hI0, hB, KeepBut.refl _ _ _⟩
    · rw [show num_Reader_Fail.next s0_2 s0_1 s0_3 a1 = (a1, s0_1) from if_pos ⟨h0, h1⟩]
      have d1 : decide (a1 = 0) = false := decide_eq_false h1
      go_enter Tryd.func17, Tryd.ntmps17
      go_wp2_with (go_at_call 49; refine (num_Reader_ok.walk g _ _ _ _ w0 w hI0).mono ?_; rintro e w' ⟨he, rfl⟩; rw [d0] at he; subst he)
      go_end0
      exact ⟨rfl, hI0.fail h1 s0_1, below_alloc (below_set hB (show w0.heap.size ≤ (⟨g, 2, none⟩ : Addr).block from hg)) _, keep_alloc (KeepBut.set_ (KeepBut.refl _ _ _) _ _) _⟩
  · rw [show num_Reader_Fail.next s0_2 s0_1 s0_3 a1 = (s0_2, s0_3) from if_neg (by simp [h0])]
    have d0 : decide (s0_2 = 0) = false := decide_eq_false h0
    go_enter Tryd.func17, Tryd.ntmps17
    go_wp2_with (go_at_call 49; refine (num_Reader_ok.walk g _ _ _ _ w0 w hI0).mono ?_; rintro e w' ⟨he, rfl⟩; rw [d0] at he; subst he)
    go_end0
    exact ⟨rfl, hI0, hB, KeepBut.refl _ _ _⟩
def num_Reader_Fail.f (s0_0 : List Int) (s0_1 : Int) (s0_2 : Int) (s0_3 : Int) (a1 : Int) : Option (Int × Int × Int) := some (s0_1, num_Reader_Fail.next s0_2 s0_1 s0_3 a1)
theorem num_Reader_Fail.calls (g : Nat) (s0_0 : List Int) (s0_1 : Int) (s0_2 : Int) (s0_3 : Int) (a1 : Int) (r1 r2 r3 : Int) (w0 w : World) (hI : IsS71 w0 w g s0_0 s0_1 s0_2 s0_3) (hB : Below w0.heap.size w0 w) (h : num_Reader_Fail.f s0_0 s0_1 s0_2 s0_3 a1 = some (r1, r2, r3)) :
    Calls Tryd.prog 17 #[.pointer (some ⟨g, 0, none⟩), .int .i64 a1] w fun e w' => e = .returned (.tuple #[]) ∧ IsS71 w0 w' g s0_0 r1 r2 r3 ∧ Below w0.heap.size w0 w' ∧ KeepBut w w' g none := by
  simp only [num_Reader_Fail.f, Option.some.injEq, Prod.mk.injEq] at h
  obtain ⟨rfl, h⟩ := h
  have := num_Reader_Fail.walk g s0_0 s0_1 s0_2 s0_3 a1 w0 w hI hB
  rw [h] at this
  exact this

/-! ### num_Reader_Left: function 21 -/
set_option maxHeartbeats 4000000 in
theorem num_Reader_Left.walk (g : Nat) (s0_0 : List Int) (s0_1 : Int) (s0_2 : Int) (s0_3 : Int) (w0 w : World) (hI : IsS71 w0 w g s0_0 s0_1 s0_2 s0_3) :
    Calls Tryd.prog 21 #[.pointer (some ⟨g, 0, none⟩)] w fun e w' => e = .returned (.int .i64 (wrap64 ((s0_0.length : Int) - s0_1))) ∧ Drawn0 w w' := by
  obtain ⟨A, c, ev, hb, hc0, hc1, hc2, hfz, hr, hf⟩ := hI.open
  have e1 : ∀ w, (binOp BinOp.eql 26 (.pointer (some ⟨g, 0, none⟩)) (.pointer none)).run Tryd.prog w = .ok (.bool false) w := fun w => by kernel_rfl
  go_enter Tryd.func21, Tryd.ntmps21
  go_wp2
  go_quiet (fail)
  go_wp2
  go_ret
  exact ⟨rfl, ⟨_, rfl⟩⟩
def num_Reader_Left.f (s0_0 : List Int) (s0_1 : Int) (s0_2 : Int) (s0_3 : Int) : Option (Int × Int × Int × Int) := some (wrap64 ((s0_0.length : Int) - s0_1), s0_1, s0_2, s0_3)
theorem num_Reader_Left.calls (g : Nat) (s0_0 : List Int) (s0_1 : Int) (s0_2 : Int) (s0_3 : Int) (r1 : Int) (r2 r3 r4 : Int) (w0 w : World) (hI : IsS71 w0 w g s0_0 s0_1 s0_2 s0_3) (hB : Below w0.heap.size w0 w) (h : num_Reader_Left.f s0_0 s0_1 s0_2 s0_3 = some (r1, r2, r3, r4)) :
    Calls Tryd.prog 21 #[.pointer (some ⟨g, 0, none⟩)] w fun e w' => e = .returned (.int .i64 r1) ∧ IsS71 w0 w' g s0_0 r2 r3 r4 ∧ Below w0.heap.size w0 w' ∧ KeepBut w w' g none := by
  simp only [num_Reader_Left.f, Option.some.injEq, Prod.mk.injEq] at h
  obtain ⟨rfl, rfl, rfl, rfl⟩ := h
  refine (num_Reader_Left.walk g s0_0 s0_1 s0_2 s0_3 w0 w hI).mono ?_
  rintro e w' ⟨rfl, ⟨m, rfl⟩⟩
  exact ⟨rfl, hI.drewN m, pw_below_drewN hB m, keep_drewN (KeepBut.refl _ _ _) m⟩

/-! ### num_Reader_Take: function 14 -/
def num_Reader_Take.f (s0_0 : List Int) (s0_1 : Int) (s0_2 : Int) (s0_3 : Int) (a1 : Int) : Option (List Int × Int × Int × Int) :=
  if 0 ≤ s0_1 ∧ s0_1 ≤ (s0_0.length : Int) ∧ (s0_0.length : Int) ≤ 140737488355328 then
    if s0_2 ≠ 0 then some ([], s0_1, s0_2, s0_3)
    else if a1 < 0 then some ([], s0_1, 1, s0_1)
    else if (s0_0.length : Int) - s0_1 < a1 then some ([], s0_1, 2, s0_1)
    else some ((s0_0.drop s0_1.toNat).take a1.toNat, s0_1 + a1, 0, s0_3)
  else none
set_option maxHeartbeats 4000000 in
theorem num_Reader_Take.calls (g : Nat) (s0_0 : List Int) (s0_1 : Int) (s0_2 : Int) (s0_3 : Int) (a1 : Int) (r1 : List Int) (r2 r3 r4 : Int) (w0 w : World) (hI : IsS71 w0 w g s0_0 s0_1 s0_2 s0_3) (hB : Below w0.heap.size w0 w) (h : num_Reader_Take.f s0_0 s0_1 s0_2 s0_3 a1 = some (r1, r2, r3, r4)) :
    Calls Tryd.prog 14 #[.pointer (some ⟨g, 0, none⟩), .int .i64 a1] w fun e w' => ∃ v0_ : Value, e = .returned v0_ ∧ (Kd.int .u8).R 5 w' w.heap.size (fun _ => True) v0_ r1 ∧ IsS71 w0 w' g s0_0 r2 r3 r4 ∧ Below w0.heap.size w0 w' ∧ KeepBut w w' g none := by
  unfold num_Reader_Take.f at h
  by_cases hb0 : 0 ≤ s0_1 ∧ s0_1 ≤ (s0_0.length : Int) ∧ (s0_0.length : Int) ≤ 140737488355328
  case neg => rw [if_neg hb0] at h; cases h
  rw [if_pos hb0] at h
  have hw : wrap64 ((s0_0.length : Int) - s0_1) = (s0_0.length : Int) - s0_1 := by unfold wrap64; omega
  have hI0 := hI
  obtain ⟨A, c, ev, hb, hc0, hc1, hc2, hfz, hr, hf⟩ := hI.open
  have hg := hI.ge
  have hlt := hI.lt
  by_cases h0 : s0_2 = 0
  case neg =>
    rw [if_pos h0] at h
    simp only [Option.some.injEq, Prod.mk.injEq] at h
    obtain ⟨rfl, rfl, rfl, rfl⟩ := h
    have d0 : decide (s0_2 = 0) = false := decide_eq_false h0
    go_enter Tryd.func14, Tryd.ntmps14
    go_wp2_with (go_at_call 49; refine (num_Reader_ok.walk g _ _ _ _ w0 w hI0).mono ?_; rintro e w' ⟨he, rfl⟩; rw [d0] at he; subst he)
    go_ret
    exact ⟨_, rfl, Kd.R_nil _ _ _ _ _, hI0, hB, KeepBut.refl _ _ _⟩
  rw [if_neg (by simp [h0])] at h
  have d0 : decide (s0_2 = 0) = true := decide_eq_true h0
  by_cases h1 : a1 < 0
  · rw [if_pos h1] at h
    simp only [Option.some.injEq, Prod.mk.injEq] at h
    obtain ⟨rfl, rfl, rfl, rfl⟩ := h
    have d1 : decide (a1 < 0) = true := decide_eq_true h1
    have hn : num_Reader_Fail.next s0_2 s0_1 s0_3 1 = (1, s0_1) := if_pos ⟨h0, by decide⟩
    have hF := num_Reader_Fail.walk g s0_0 s0_1 s0_2 s0_3 1 w0 w hI0 hB
    rw [hn] at hF
    go_enter Tryd.func14, Tryd.ntmps14
    go_wp2_with (first | (go_at_call 49; refine (num_Reader_ok.walk g _ _ _ _ w0 w hI0).mono ?_; rintro e w' ⟨he, rfl⟩; rw [d0] at he; subst he) | (go_at_call 17; refine hF.mono ?_; rintro e w1 ⟨rfl, hI1, hB1, hK1⟩))
    go_ret
    exact ⟨_, rfl, Kd.R_nil _ _ _ _ _, hI1, hB1, hK1⟩
  rw [if_neg h1] at h
  have d1 : decide (a1 < 0) = false := decide_eq_false h1
  by_cases h2 : (s0_0.length : Int) - s0_1 < a1
  · rw [if_pos h2] at h
    simp only [Option.some.injEq, Prod.mk.injEq] at h
    obtain ⟨rfl, rfl, rfl, rfl⟩ := h
    have d2 : decide ((s0_0.length : Int) - s0_1 < a1) = true := decide_eq_true h2
    have hn : num_Reader_Fail.next s0_2 s0_1 s0_3 2 = (2, s0_1) := if_pos ⟨h0, by decide⟩
    have hF := fun m => num_Reader_Fail.walk g s0_0 s0_1 s0_2 s0_3 2 w0 (w.drewN m) (hI0.drewN m) (pw_below_drewN hB m)
    rw [hn] at hF
    go_enter Tryd.func14, Tryd.ntmps14
    go_wp2_with (first | (go_at_call 49; refine (num_Reader_ok.walk g _ _ _ _ w0 w hI0).mono ?_; rintro e w' ⟨he, rfl⟩; rw [d0] at he; subst he) | (go_at_call 21; refine (num_Reader_Left.walk g _ _ _ _ w0 _ hI0).mono ?_; rintro e w' ⟨rfl, ⟨m, rfl⟩⟩; rw [hw]) | (go_at_call 17; refine (hF _).mono ?_; rintro e w1 ⟨rfl, hI1, hB1, hK1⟩))
    go_ret
    exact ⟨_, rfl, Kd.R_nil _ _ _ _ _, hI1, hB1, hK1⟩
  rw [if_neg h2] at h
  have d2 : decide ((s0_0.length : Int) - s0_1 < a1) = false := decide_eq_false h2
  simp only [Option.some.injEq, Prod.mk.injEq] at h
  obtain ⟨rfl, rfl, rfl, rfl⟩ := h
  have hw2 : wrap64 (s0_1 + a1) = s0_1 + a1 := by unfold wrap64; omega
  obtain ⟨hb1, hb2, hb3⟩ := hb0
  go_enter Tryd.func14, Tryd.ntmps14
  go_wp2_with (first | (go_at_call 49; refine (num_Reader_ok.walk g _ _ _ _ w0 w hI0).mono ?_; rintro e w' ⟨he, rfl⟩; rw [d0] at he; subst he) | (go_at_call 21; refine (num_Reader_Left.walk g _ _ _ _ w0 _ hI0).mono ?_; rintro e w' ⟨rfl, ⟨m, rfl⟩⟩; rw [hw]))
  have hI1 := (hI0.drewN m).set_1 (s0_1 + a1)
  have hB1 := (pw_below_drewN hB m).setCell (p := ⟨g, 1, none⟩) hg (.int .i64 (s0_1 + a1))
  have hK1 := KeepBut.set_ (keep_drewN (KeepBut.refl w' g none) m) 1 (.int .i64 (s0_1 + a1))
  generalize (w'.drewN m).setCell ⟨g, 1, none⟩ (.int .i64 (s0_1 + a1)) = W0 at hI1 hB1 hK1 ⊢
  have hw3 : wrap64 (s0_1 + a1 - a1) = s0_1 := by unfold wrap64; omega
  have hw5 : IntKind.i64.wrap (s0_1 + a1 - a1) = s0_1 := (IntKind.wrap_i64 _).trans (by omega)
  have hlen : ((s0_0.drop s0_1.toNat).take a1.toNat).length = a1.toNat := by rw [List.length_take, List.length_drop]; omega
  have hxy : (s0_0.take (s0_1 + a1).toNat).drop s0_1.toNat = (s0_0.drop s0_1.toNat).take a1.toNat := by rw [List.drop_take]; congr 1; omega
  have hst : (s0_1 + a1).toNat - s0_1.toNat = ((s0_0.drop s0_1.toNat).take a1.toNat).length := by rw [hlen]; omega
  have hl1 : s0_1 ≤ s0_1 + a1 := by omega
  have hl2 : s0_1 + a1 ≤ (s0_0.length : Int) := by omega
  have hl3 : (s0_1 + a1).toNat ≤ s0_0.length := by omega
  have hl4 : s0_1.toNat ≤ (s0_1 + a1).toNat := by omega
  have hfc : bytes_Clone.f ((s0_0.drop s0_1.toNat).take a1.toNat) = some ((s0_0.drop s0_1.toNat).take a1.toNat) := by unfold bytes_Clone.f; rw [if_pos (by rw [hlen]; omega)]
  have hsz0 : w'.heap.size ≤ W0.heap.size := hK1.1
  clear hc0 hc1 hc2 hr hf hb hfz hw2 hw hI hI0 h2 d2 d1 h1
  generalize hT : s0_1 + a1 = t1 at *
  generalize hL : (s0_0.drop s0_1.toNat).take a1.toNat = l1 at *
  have HT := Aside0.mk hT
  have HL := Aside0.mk hL
  clear hT hL
  have hI2 := hI1.drew
  rw [h0] at hI2
  obtain ⟨A1, c1, ev1, hbA, hcA0, hcA1, _, _, hrA, _⟩ := hI1.open
  obtain ⟨_, hcc, hC⟩ := Kd.R_reads' hrA
  have hmid := Kd.C_mid hC hl4 hl3 hcc
  rw [hxy] at hmid
  have hmid : (Kd.int .u8).C W0 (if c1 = s0_1.toNat then A1 else A1.map (fun x => x.add s0_1.toNat)) l1.length l1 := by simpa [Kd.int, Kd.scalar] using hmid
  have hle : l1.length ≤ c1 - s0_1.toNat := by omega
  have hl5 : t1 ≤ (c1 : Int) := by omega
  clear hrA hC hbA hxy hlen hl2 hl3 hl4 hb2 hb3
  have hKC : Kd.C (Kd.int .u8) W0.drew (if c1 = s0_1.toNat then A1 else A1.map (fun x => x.add s0_1.toNat)) l1.length l1 := Kd.C_below hmid (below_drew1 (Below.refl _ _))
  have hdr : Below W0.heap.size W0 W0.drew := below_drew1 (Below.refl _ _)
  by_cases hcs : c1 = s0_1.toNat
  · rw [if_pos hcs] at hKC
    subst hcs
    go_region_with (go_at_call 48; refine (bytes_Clone.calls _ _ l1 l1 W0.drew hKC (by omega) hfc).mono ?_; rintro e w1 ⟨v, rfl, hR, hB2⟩)
    all_goals (go_wp2; go_ret; exact ⟨_, rfl, by rw [HL.out]; exact Kd.R_lower hR hsz0, by rw [HT.out]; exact hI2.below hB2, below_step (below_drew1 hB1) hB2, (keep_drew hK1).trans (KeepBut.of_below hB2 g none) (.inl rfl)⟩)
  · rw [if_neg hcs] at hKC
    go_region_with (go_at_call 48; refine (bytes_Clone.calls _ _ l1 l1 W0.drew hKC hle hfc).mono ?_; rintro e w1 ⟨v, rfl, hR, hB2⟩)
    all_goals (go_wp2; go_ret; exact ⟨_, rfl, by rw [HL.out]; exact Kd.R_lower hR hsz0, by rw [HT.out]; exact hI2.below hB2, below_step (below_drew1 hB1) hB2, (keep_drew hK1).trans (KeepBut.of_below hB2 g none) (.inl rfl)⟩)

/-! ### num_short: function 50 -/
mutual
def num_short.l0 : Nat → List Int → Int → Int → Int → Option (Int × Int × Int)
  | 0, _, _, _, _ => none
  | k + 1, x0, x2, x3, x5 => if x3 = (x0.length : Int) then (some (0, 0, 2)) else (if 0 ≤ x3 then (if x3 < (x0.length : Int) then (if x5 ≥ 64 then (num_short.j1 k x0 x2 (wrap64 (x3 + 1)) x5 (rd x0 x3) (IntKind.u64.wrap (Go.bits .and .u8 (rd x0 x3) 127)) (decide (x5 ≥ 64))) else (if (wrap64 (x5 + 7)) > 64 then (if 0 ≤ (IntKind.u64.wrap (wrap64 (64 - x5))) then (num_short.j1 k x0 x2 (wrap64 (x3 + 1)) x5 (rd x0 x3) (IntKind.u64.wrap (Go.bits .and .u8 (rd x0 x3) 127)) ((shr .u64 (IntKind.u64.wrap (Go.bits .and .u8 (rd x0 x3) 127)) (IntKind.u64.wrap (wrap64 (64 - x5)))) != 0)) else (none)) else (num_short.j1 k x0 x2 (wrap64 (x3 + 1)) x5 (rd x0 x3) (IntKind.u64.wrap (Go.bits .and .u8 (rd x0 x3) 127)) false))) else (none)) else (none))
def num_short.j1 : Nat → List Int → Int → Int → Int → Int → Int → Bool → Option (Int × Int × Int)
  | 0, _, _, _, _, _, _, _ => none
  | k + 1, x0, x2, x3, x5, x6, x7, x29 => if x29 = true then (some (0, 0, 4)) else (if x6 = 0 then (num_short.j2 k x0 x2 x3 x5 x6 x7 (decide (x3 > 1))) else (num_short.j2 k x0 x2 x3 x5 x6 x7 false))
def num_short.j2 : Nat → List Int → Int → Int → Int → Int → Int → Bool → Option (Int × Int × Int)
  | 0, _, _, _, _, _, _, _ => none
  | k + 1, x0, x2, x3, x5, x6, x7, x43 => if x43 = true then (some (0, 0, 4)) else (if 0 ≤ (IntKind.u64.wrap (x5)) then (if (Go.bits .and .u8 x6 128) = 0 then (some (Go.bits .or .u64 x2 (shl .u64 x7 (IntKind.u64.wrap (x5))), x3, 0)) else (num_short.l0 k x0 (Go.bits .or .u64 x2 (shl .u64 x7 (IntKind.u64.wrap (x5)))) x3 (wrap64 (x5 + 7)))) else (none))
end
def num_short.f (k : Nat) (l0 : List Int) : Option (Int × Int × Int) := num_short.l0 k l0 0 0 0
theorem num_short.mono_l : ∀ k, (∀ y0 y1 y2 y3, LeO (num_short.l0 k y0 y1 y2 y3) (num_short.l0 (k + 1) y0 y1 y2 y3)) ∧ (∀ y0 y1 y2 y3 y4 y5 y6, LeO (num_short.j1 k y0 y1 y2 y3 y4 y5 y6) (num_short.j1 (k + 1) y0 y1 y2 y3 y4 y5 y6)) ∧ (∀ y0 y1 y2 y3 y4 y5 y6, LeO (num_short.j2 k y0 y1 y2 y3 y4 y5 y6) (num_short.j2 (k + 1) y0 y1 y2 y3 y4 y5 y6))
  | 0 => ⟨fun _ _ _ _ r h => by simp [num_short.l0] at h, fun _ _ _ _ _ _ _ r h => by simp [num_short.j1] at h, fun _ _ _ _ _ _ _ r h => by simp [num_short.j2] at h⟩
  | k + 1 => by
    obtain ⟨ih0, ih1, ih2⟩ := num_short.mono_l k
    refine ⟨?_, ?_, ?_⟩
    · intro y0 y1 y2 y3
      unfold num_short.l0
      repeat' first
      | (with_reducible exact ih0 _ _ _ _)
      | (with_reducible exact ih1 _ _ _ _ _ _ _)
      | (with_reducible exact ih2 _ _ _ _ _ _ _)
      | (with_reducible exact LeO.refl _)
      | (with_reducible exact LeO.none _)
      | (with_reducible refine LeO.ite ?_ ?_)
      | (with_reducible refine LeO.bind ?_ (fun _ => ?_))
      | exact ih0 _ _ _ _
      | exact ih1 _ _ _ _ _ _ _
      | exact ih2 _ _ _ _ _ _ _
      | exact LeO.none _
      | refine LeO.ite ?_ ?_
      | refine LeO.bind ?_ (fun _ => ?_)
    · intro y0 y1 y2 y3 y4 y5 y6
      unfold num_short.j1
      repeat' first
      | (with_reducible exact ih0 _ _ _ _)
      | (with_reducible exact ih1 _ _ _ _ _ _ _)
      | (with_reducible exact ih2 _ _ _ _ _ _ _)
      | (with_reducible exact LeO.refl _)
      | (with_reducible exact LeO.none _)
      | (with_reducible refine LeO.ite ?_ ?_)
      | (with_reducible refine LeO.bind ?_ (fun _ => ?_))
      | exact ih0 _ _ _ _
      | exact ih1 _ _ _ _ _ _ _
      | exact ih2 _ _ _ _ _ _ _
      | exact LeO.none _
      | refine LeO.ite ?_ ?_
      | refine LeO.bind ?_ (fun _ => ?_)
    · intro y0 y1 y2 y3 y4 y5 y6
      unfold num_short.j2
      repeat' first
      | (with_reducible exact ih0 _ _ _ _)
      | (with_reducible exact ih1 _ _ _ _ _ _ _)
      | (with_reducible exact ih2 _ _ _ _ _ _ _)
      | (with_reducible exact LeO.refl _)
      | (with_reducible exact LeO.none _)
      | (with_reducible refine LeO.ite ?_ ?_)
      | (with_reducible refine LeO.bind ?_ (fun _ => ?_))
      | exact ih0 _ _ _ _
      | exact ih1 _ _ _ _ _ _ _
      | exact ih2 _ _ _ _ _ _ _
      | exact LeO.none _
      | refine LeO.ite ?_ ?_
      | refine LeO.bind ?_ (fun _ => ?_)
theorem num_short.mono : ∀ a0 k, LeO (num_short.f k a0) (num_short.f (k + 1) a0) := by
  intro a0 k
  obtain ⟨ih0, ih1, ih2⟩ := num_short.mono_l k
  unfold num_short.f
  repeat' first
      | (with_reducible exact ih0 _ _ _ _)
      | (with_reducible exact ih1 _ _ _ _ _ _ _)
      | (with_reducible exact ih2 _ _ _ _ _ _ _)
      | (with_reducible exact LeO.refl _)
      | (with_reducible exact LeO.none _)
      | (with_reducible refine LeO.ite ?_ ?_)
      | (with_reducible refine LeO.bind ?_ (fun _ => ?_))
      | exact ih0 _ _ _ _
      | exact ih1 _ _ _ _ _ _ _
      | exact ih2 _ _ _ _ _ _ _
      | exact LeO.none _
      | refine LeO.ite ?_ ?_
      | refine LeO.bind ?_ (fun _ => ?_)
set_option maxHeartbeats 8000000 in
set_option maxRecDepth 100000 in
theorem num_short.calls (k : Nat) (A0 : Option Addr) (c0 : Nat) (l0 : List Int) (r1 : Int) (r2 : Int) (r3 : Int) (w : World) (hr0 : Kd.C (Kd.int .u8) w A0 l0.length l0) (hc0 : l0.length ≤ c0) (h : num_short.f k l0 = some (r1, r2, r3)) :
    Calls Tryd.prog 50 #[.slice A0 l0.length c0] w fun e w' => e = .returned (.tuple #[.int .u64 r1, .int .i64 r2, .int .i64 r3]) ∧ Drawn0 w w' := by
  have HR0 := Aside0.mk hr0
  have HC0 := Aside0.mk hc0
  clear hr0 hc0
  have H : (num_short.l0 k l0 0 0 0) = some (r1, r2, r3) := h
  clear h
  have H' := Aside0.mk H
  clear H
  go_enter Tryd.func50, Tryd.ntmps50
  go_wp2
  go_loopg [2, 3, 5] k (fun kq v2 v3 v5 w' => ∃ (x2_1 : Int) (x3_1 : Int) (x5_1 : Int), v2 = .int .u64 x2_1 ∧ v3 = .int .i64 x3_1 ∧ v5 = .int .i64 x5_1 ∧ Aside0 (num_short.l0 kq l0 x2_1 x3_1 x5_1 = some (r1, r2, r3)) ∧ Aside0 (kq ≤ k) ∧ Drawn0 w w')
  case atStart => exact ⟨(0), (0), (0), (by first | rfl | (simp; done) | (simp [*]; done)), (by first | rfl | (simp; done) | (simp [*]; done)), (by first | rfl | (simp; done) | (simp [*]; done)), H', ⟨Nat.le_refl _⟩, by repeat (first | exact Drawn0.refl _ | apply Drawn0.step)⟩
  case round =>
    clear H'
    obtain ⟨x2_1, x3_1, x5_1, rfl, rfl, rfl, HA, HK1, ⟨m1, rfl⟩⟩ := hrel
    cases gk with
    | zero => exact absurd HA.out (by simp [num_short.l0])
    | succ k1 =>
      have H := HA.out
      clear HA
      simp only [num_short.l0] at H
      by_cases c2 : x3_1 = (l0.length : Int)
      · rw [if_pos c2] at H
        have c2b0 : (x3_1 == (l0.length : Int)) = true := beq_iff_eq.mpr c2
        have c2b1 : (x3_1 != (l0.length : Int)) = false := bne_eq_false_iff_eq.mpr c2
        clear c2
        simp only [Option.some.injEq, Prod.mk.injEq] at H
        obtain ⟨rfl, rfl, rfl⟩ := H
        go_wp2
        go_ret3
        exact ⟨by first | rfl | (simp; done) | (simp [*]; done), by repeat (first | exact Drawn0.refl _ | apply Drawn0.step)⟩
      · rw [if_neg c2] at H
        have c2b0 : (x3_1 == (l0.length : Int)) = false := beq_eq_false_iff_ne.mpr c2
        have c2b1 : (x3_1 != (l0.length : Int)) = true := bne_iff_ne.mpr c2
        by_cases c3 : 0 ≤ x3_1
        · rw [if_pos c3] at H
          have c3b0 : decide (0 ≤ x3_1) = true := decide_eq_true c3
          clear c3
          by_cases c4 : x3_1 < (l0.length : Int)
          · rw [if_pos c4] at H
            have c4b0 : decide (x3_1 < (l0.length : Int)) = true := decide_eq_true c4
            clear c4
            have HC5 := Aside0.mk H
            clear H
            have p101 : 0 ≤ (x3_1 : Int) := of_decide_eq_true (by first | (with_reducible assumption) | assumption)
            have q101 : x3_1 < (l0.length : Int) := of_decide_eq_true (by first | (with_reducible assumption) | assumption)
            obtain ⟨ad101, e101, hx101_0⟩ := Kd.at_int HR0.out x3_1 p101 q101
            cases e101
            replace p101 := eq_true p101
            replace q101 := eq_true q101
            go_upto_if 29 with (fail)
            go_cut [29] (fun v29 wc => ∃ (kq : Nat) (x29_4 : Bool), v29 = .bool x29_4 ∧ Aside0 (num_short.j1 kq l0 x2_1 (wrap64 (x3_1 + 1)) x5_1 (rd l0 x3_1) (IntKind.u64.wrap (Go.bits .and .u8 (rd l0 x3_1) 127)) x29_4 = some (r1, r2, r3)) ∧ Aside0 (kq ≤ k1) ∧ Drawn0 w wc)
            case first =>
              have H := HC5.out
              clear HC5
              by_cases c6 : x5_1 ≥ 64
              · rw [if_pos c6] at H
                have c6b0 : decide (64 ≤ x5_1) = true := decide_eq_true c6
                clear c6
                (first | rw [c6b0] | (simp only [i64_w, i32_w]; rw [c6b0]) | skip)
                have H' := Aside0.mk H
                clear H
                go_wp2
                go_meet
                case rel => exact ⟨_, (decide (x5_1 ≥ 64)), (by first | rfl | (simp; done) | (simp [*]; done)), H', ⟨by have := HK1.out; first | omega | exact Nat.le_refl _⟩, by repeat (first | exact Drawn0.refl _ | apply Drawn0.step)⟩
              · rw [if_neg c6] at H
                have c6b0 : decide (64 ≤ x5_1) = false := decide_eq_false c6
                clear c6
                (first | rw [c6b0] | (simp only [i64_w, i32_w]; rw [c6b0]) | skip)
                by_cases c7 : (wrap64 (x5_1 + 7)) > 64
                · rw [if_pos c7] at H
                  have c7b0 : decide (64 < (wrap64 (x5_1 + 7))) = true := decide_eq_true c7
                  clear c7
                  obtain ⟨ji8, hji8⟩ : ∃ j_ : Int, (IntKind.u64.wrap (wrap64 (64 - x5_1))) = j_ := ⟨_, rfl⟩
                  replace H : (if 0 ≤ (ji8) then (num_short.j1 k1 l0 x2_1 (wrap64 (x3_1 + 1)) x5_1 (rd l0 x3_1) (IntKind.u64.wrap (Go.bits .and .u8 (rd l0 x3_1) 127)) ((shr .u64 (IntKind.u64.wrap (Go.bits .and .u8 (rd l0 x3_1) 127)) (ji8)) != 0)) else (none)) = some (r1, r2, r3) := by first | (rw [hji8] at H; exact H) | (simp only [hji8] at H ⊢; exact H)
                  by_cases c9 : 0 ≤ (ji8)
                  · rw [if_pos c9] at H
                    have c9b0 := eq_true c9
                    have c9b1 : decide (0 ≤ (ji8)) = true := decide_eq_true c9
                    clear c9
                    obtain ⟨ji10, hji10⟩ : ∃ j_ : Int, (shr .u64 (IntKind.u64.wrap (Go.bits .and .u8 (rd l0 x3_1) 127)) (ji8)) = j_ := ⟨_, rfl⟩
                    replace H : (num_short.j1 k1 l0 x2_1 (wrap64 (x3_1 + 1)) x5_1 (rd l0 x3_1) (IntKind.u64.wrap (Go.bits .and .u8 (rd l0 x3_1) 127)) ((ji10) != 0)) = some (r1, r2, r3) := by first | (rw [hji10] at H; exact H) | (simp only [hji10] at H ⊢; exact H)
                    have hji10_ : ((IntKind.u64.wrap (Go.bits .and .u8 (rd l0 x3_1) 127)) / 2 ^ min (ji8).toNat 64) = ji10 := hji10
                    have hji10z : (ji8) ≤ 64 → ((IntKind.u64.wrap (Go.bits .and .u8 (rd l0 x3_1) 127)) / 2 ^ (ji8).toNat) = ji10 := shr_small hji10
                    have H' := Aside0.mk H
                    clear H
                    go_wp2
                    go_meet
                    case rel => exact ⟨_, (((ji10) != 0)), (by first | rfl | (simp; done) | (simp only [← hji10] <;> (first | rfl | simp)) | (simp [*]; done)), H', ⟨by have := HK1.out; first | omega | exact Nat.le_refl _⟩, by repeat (first | exact Drawn0.refl _ | apply Drawn0.step)⟩
                  · rw [if_neg c9] at H
                    exact absurd H (by simp)
                · rw [if_neg c7] at H
                  have c7b0 : decide (64 < (wrap64 (x5_1 + 7))) = false := decide_eq_false c7
                  clear c7
                  have H' := Aside0.mk H
                  clear H
                  go_wp2
                  go_meet
                  case rel => exact ⟨_, (false), (by first | rfl | (simp; done) | (simp [*]; done)), H', ⟨by have := HK1.out; first | omega | exact Nat.le_refl _⟩, by repeat (first | exact Drawn0.refl _ | apply Drawn0.step)⟩
            case rest =>
              clear HC5
              try clear p1
              try clear q1
              try clear hx1
              try clear c2
              try clear c2b0
              try clear c2b1
              try clear p2
              try clear c3
              try clear c3b0
              try clear c4
              try clear c4b0
              try clear c5
              try clear c6
              try clear c6b0
              try clear p6
              try clear c7
              try clear c7b0
              try clear c9
              try clear c9b0
              try clear c9b1
              try clear p10
              try clear q10
              try clear hx10
              try clear hx101_0
              try clear p101
              try clear q101
              obtain ⟨kq, x29_4, rfl, HA, HJ4, ⟨mc4, rfl⟩⟩ := hcut
              cases kq with
              | zero => exact absurd HA.out (by simp [num_short.j1])
              | succ kj4 =>
                have H := HA.out
                clear HA
                simp only [num_short.j1] at H
                by_cases c11 : x29_4 = true
                · subst c11
                  have H1 : (some (0, 0, 4)) = some (r1, r2, r3) := by rw [if_pos rfl] at H; exact H
                  clear H
                  have H := H1
                  clear H1
                  simp only [Option.some.injEq, Prod.mk.injEq] at H
                  obtain ⟨rfl, rfl, rfl⟩ := H
                  go_wp2
                  go_ret3
                  exact ⟨by first | rfl | (simp; done) | (simp [*]; done), by repeat (first | exact Drawn0.refl _ | apply Drawn0.step)⟩
                · replace c11 := Bool.eq_false_iff.mpr c11
                  subst c11
                  have H1 : (if (rd l0 x3_1) = 0 then (num_short.j2 kj4 l0 x2_1 (wrap64 (x3_1 + 1)) x5_1 (rd l0 x3_1) (IntKind.u64.wrap (Go.bits .and .u8 (rd l0 x3_1) 127)) (decide ((wrap64 (x3_1 + 1)) > 1))) else (num_short.j2 kj4 l0 x2_1 (wrap64 (x3_1 + 1)) x5_1 (rd l0 x3_1) (IntKind.u64.wrap (Go.bits .and .u8 (rd l0 x3_1) 127)) false)) = some (r1, r2, r3) := by rw [if_neg (show ¬ (false = true) by decide)] at H; exact H
                  clear H
                  have H := H1
                  clear H1
                  have HC12 := Aside0.mk H
                  clear H
                  go_upto_region 12 with (fail)
                  go_cut [43] (fun v43 wc => ∃ (kq : Nat) (x43_11 : Bool), v43 = .bool x43_11 ∧ Aside0 (num_short.j2 kq l0 x2_1 (wrap64 (x3_1 + 1)) x5_1 (rd l0 x3_1) (IntKind.u64.wrap (Go.bits .and .u8 (rd l0 x3_1) 127)) x43_11 = some (r1, r2, r3)) ∧ Aside0 (kq ≤ kj4) ∧ Drawn0 w wc)
                  case first =>
                    have H := HC12.out
                    clear HC12
                    by_cases c13 : (rd l0 x3_1) = 0
                    · rw [if_pos c13] at H
                      have c13b0 : ((rd l0 x3_1) == 0) = true := beq_iff_eq.mpr c13
                      have c13b1 : ((rd l0 x3_1) != 0) = false := bne_eq_false_iff_eq.mpr c13
                      clear c13
                      (first | rw [c13b0] | (simp only [i64_w, i32_w]; rw [c13b0]) | skip)
                      have H' := Aside0.mk H
                      clear H
                      go_wp2
                      go_meet
                      case rel => exact ⟨_, (decide ((wrap64 (x3_1 + 1)) > 1)), (by first | rfl | (simp; done) | (simp [*]; done)), H', ⟨by have := HK1.out; have := HJ4.out; first | omega | exact Nat.le_refl _⟩, by repeat (first | exact Drawn0.refl _ | apply Drawn0.step)⟩
                    · rw [if_neg c13] at H
                      have c13b0 : ((rd l0 x3_1) == 0) = false := beq_eq_false_iff_ne.mpr c13
                      have c13b1 : ((rd l0 x3_1) != 0) = true := bne_iff_ne.mpr c13
                      (first | rw [c13b0] | (simp only [i64_w, i32_w]; rw [c13b0]) | skip)
                      have H' := Aside0.mk H
                      clear H
                      go_wp2
                      go_meet
                      case rel => exact ⟨_, (false), (by first | rfl | (simp; done) | (simp [*]; done)), H', ⟨by have := HK1.out; have := HJ4.out; first | omega | exact Nat.le_refl _⟩, by repeat (first | exact Drawn0.refl _ | apply Drawn0.step)⟩
                  case rest =>
                    clear HC12
                    try clear c1
                    try clear p1
                    try clear q1
                    try clear hx1
                    try clear c2
                    try clear c2b0
                    try clear c2b1
                    try clear p2
                    try clear c3
                    try clear c3b0
                    try clear c4
                    try clear c4b0
                    try clear c5
                    try clear c6
                    try clear c6b0
                    try clear p6
                    try clear c7
                    try clear c7b0
                    try clear c9
                    try clear c9b0
                    try clear c9b1
                    try clear p10
                    try clear q10
                    try clear hx10
                    try clear c11
                    try clear c13
                    try clear c13b0
                    try clear c13b1
                    try clear hx101_0
                    try clear p1
                    try clear p10
                    try clear p101
                    try clear p2
                    try clear p6
                    try clear q1
                    try clear q10
                    try clear q101
                    obtain ⟨kq, x43_11, rfl, HA, HJ11, ⟨mc11, rfl⟩⟩ := hcut
                    cases kq with
                    | zero => exact absurd HA.out (by simp [num_short.j2])
                    | succ kj11 =>
                      have H := HA.out
                      clear HA
                      simp only [num_short.j2] at H
                      by_cases c14 : x43_11 = true
                      · subst c14
                        have H1 : (some (0, 0, 4)) = some (r1, r2, r3) := by rw [if_pos rfl] at H; exact H
                        clear H
                        have H := H1
                        clear H1
                        simp only [Option.some.injEq, Prod.mk.injEq] at H
                        obtain ⟨rfl, rfl, rfl⟩ := H
                        go_wp2
                        go_ret3
                        exact ⟨by first | rfl | (simp; done) | (simp [*]; done), by repeat (first | exact Drawn0.refl _ | apply Drawn0.step)⟩
                      · replace c14 := Bool.eq_false_iff.mpr c14
                        subst c14
                        have H1 : (if 0 ≤ (IntKind.u64.wrap (x5_1)) then (if (Go.bits .and .u8 (rd l0 x3_1) 128) = 0 then (some (Go.bits .or .u64 x2_1 (shl .u64 (IntKind.u64.wrap (Go.bits .and .u8 (rd l0 x3_1) 127)) (IntKind.u64.wrap (x5_1))), (wrap64 (x3_1 + 1)), 0)) else (num_short.l0 kj11 l0 (Go.bits .or .u64 x2_1 (shl .u64 (IntKind.u64.wrap (Go.bits .and .u8 (rd l0 x3_1) 127)) (IntKind.u64.wrap (x5_1)))) (wrap64 (x3_1 + 1)) (wrap64 (x5_1 + 7)))) else (none)) = some (r1, r2, r3) := by rw [if_neg (show ¬ (false = true) by decide)] at H; exact H
                        clear H
                        have H := H1
                        clear H1
                        obtain ⟨ji15, hji15⟩ : ∃ j_ : Int, (IntKind.u64.wrap (x5_1)) = j_ := ⟨_, rfl⟩
                        replace H : (if 0 ≤ (ji15) then (if (Go.bits .and .u8 (rd l0 x3_1) 128) = 0 then (some (Go.bits .or .u64 x2_1 (shl .u64 (IntKind.u64.wrap (Go.bits .and .u8 (rd l0 x3_1) 127)) (ji15)), (wrap64 (x3_1 + 1)), 0)) else (num_short.l0 kj11 l0 (Go.bits .or .u64 x2_1 (shl .u64 (IntKind.u64.wrap (Go.bits .and .u8 (rd l0 x3_1) 127)) (ji15))) (wrap64 (x3_1 + 1)) (wrap64 (x5_1 + 7)))) else (none)) = some (r1, r2, r3) := by first | (rw [hji15] at H; exact H) | (simp only [hji15] at H ⊢; exact H)
                        by_cases c16 : 0 ≤ (ji15)
                        · rw [if_pos c16] at H
                          have c16b0 := eq_true c16
                          have c16b1 : decide (0 ≤ (ji15)) = true := decide_eq_true c16
                          clear c16
                          obtain ⟨ji17, hji17⟩ : ∃ j_ : Int, (shl .u64 (IntKind.u64.wrap (Go.bits .and .u8 (rd l0 x3_1) 127)) (ji15)) = j_ := ⟨_, rfl⟩
                          replace H : (if (Go.bits .and .u8 (rd l0 x3_1) 128) = 0 then (some (Go.bits .or .u64 x2_1 (ji17), (wrap64 (x3_1 + 1)), 0)) else (num_short.l0 kj11 l0 (Go.bits .or .u64 x2_1 (ji17)) (wrap64 (x3_1 + 1)) (wrap64 (x5_1 + 7)))) = some (r1, r2, r3) := by first | (rw [hji17] at H; exact H) | (simp only [hji17] at H ⊢; exact H)
                          have hji17_ : (IntKind.u64.wrap ((IntKind.u64.wrap (Go.bits .and .u8 (rd l0 x3_1) 127)) * 2 ^ min (ji15).toNat 64)) = ji17 := hji17
                          have hji17z : (ji15) ≤ 64 → (IntKind.u64.wrap ((IntKind.u64.wrap (Go.bits .and .u8 (rd l0 x3_1) 127)) * 2 ^ (ji15).toNat)) = ji17 := shl_small hji17
                          by_cases c18 : (Go.bits .and .u8 (rd l0 x3_1) 128) = 0
                          · rw [if_pos c18] at H
                            have c18b0 : ((Go.bits .and .u8 (rd l0 x3_1) 128) == 0) = true := beq_iff_eq.mpr c18
                            have c18b1 : ((Go.bits .and .u8 (rd l0 x3_1) 128) != 0) = false := bne_eq_false_iff_eq.mpr c18
                            clear c18
                            simp only [Option.some.injEq, Prod.mk.injEq] at H
                            obtain ⟨rfl, rfl, rfl⟩ := H
                            go_wp2
                            go_ret3
                            exact ⟨by first | rfl | (simp; done) | (simp only [← hji15, ← hji17] <;> (first | rfl | simp)) | (simp [*]; done), by repeat (first | exact Drawn0.refl _ | apply Drawn0.step)⟩
                          · rw [if_neg c18] at H
                            have c18b0 : ((Go.bits .and .u8 (rd l0 x3_1) 128) == 0) = false := beq_eq_false_iff_ne.mpr c18
                            have c18b1 : ((Go.bits .and .u8 (rd l0 x3_1) 128) != 0) = true := bne_iff_ne.mpr c18
                            have H' := Aside0.mk H
                            clear H
                            go_wp2
                            go_roundg kj11
                            case measure => have := HK1.out; have := HJ4.out; have := HJ11.out; omega
                            case rel => exact ⟨(Go.bits .or .u64 x2_1 (ji17)), ((wrap64 (x3_1 + 1))), (wrap64 (x5_1 + 7)), (by first | rfl | (simp; done) | (simp only [← hji17] <;> (first | rfl | simp)) | (simp [*]; done)), (by first | rfl | (simp; done) | (simp [*]; done)), (by first | rfl | (simp; done) | (simp [*]; done)), H', ⟨by have := HK1.out; have := HJ4.out; have := HJ11.out; omega⟩, by repeat (first | exact Drawn0.refl _ | apply Drawn0.step)⟩
                        · rw [if_neg c16] at H
                          exact absurd H (by simp)
          · rw [if_neg c4] at H
            exact absurd H (by simp)
        · rw [if_neg c3] at H
          exact absurd H (by simp)

/-! ### num_Reader_Var: function 15 -/
def num_Reader_Var.f (k : Nat) (s0_0 : List Int) (s0_1 : Int) (s0_2 : Int) (s0_3 : Int) : Option (Int × Int × Int × Int) :=
  if s0_2 ≠ 0 then some (0, s0_1, s0_2, s0_3)
  else if 0 ≤ s0_1 ∧ s0_1 ≤ (s0_0.length : Int) then
    (num_short.f k (s0_0.drop s0_1.toNat)).bind fun t => (num_Reader_Fail.f s0_0 s0_1 s0_2 s0_3 t.2.2).bind fun u => some (t.1, wrap64 (u.1 + t.2.1), u.2.1, u.2.2)
  else none
theorem num_Reader_Var.mono : ∀ s0_0 s0_1 s0_2 s0_3 k, LeO (num_Reader_Var.f k s0_0 s0_1 s0_2 s0_3) (num_Reader_Var.f (k + 1) s0_0 s0_1 s0_2 s0_3) := by
  intro s0 s1 s2 s3 k r h
  unfold num_Reader_Var.f at h ⊢
  by_cases h0 : s2 ≠ 0
  · rw [if_pos h0] at h ⊢; exact h
  · rw [if_neg h0] at h ⊢
    by_cases h1 : 0 ≤ s1 ∧ s1 ≤ (s0.length : Int)
    · rw [if_pos h1] at h ⊢
      obtain ⟨t, ht, h⟩ := Option.bind_eq_some_iff.mp h
      rw [num_short.mono _ k _ ht, Option.bind_some]; exact h
    · rw [if_neg h1] at h; cases h
set_option maxRecDepth 100000 in
set_option maxHeartbeats 8000000 in
theorem num_Reader_Var.calls (k : Nat) (g : Nat) (s0_0 : List Int) (s0_1 : Int) (s0_2 : Int) (s0_3 : Int) (r1 : Int) (r2 : Int) (r3 : Int) (r4 : Int) (w0 w : World) (hI : IsS71 w0 w g s0_0 s0_1 s0_2 s0_3) (hB : Below w0.heap.size w0 w) (h : num_Reader_Var.f k s0_0 s0_1 s0_2 s0_3 = some (r1, r2, r3, r4)) :
    Calls Tryd.prog 15 #[.pointer (some ⟨g, 0, none⟩)] w fun e w' => e = .returned (.int .u64 r1) ∧ IsS71 w0 w' g s0_0 r2 r3 r4 ∧ Below w0.heap.size w0 w' ∧ KeepBut w w' g none := by
  unfold num_Reader_Var.f at h
  have hI0 := hI
  obtain ⟨A1, c1, ev, hb, hc0, hc1, hc2, hfz, hr, hf⟩ := hI.open
  have hg := hI.ge
  by_cases h0 : s0_2 ≠ 0
  · rw [if_pos h0] at h
    simp only [Option.some.injEq, Prod.mk.injEq] at h
    obtain ⟨rfl, rfl, rfl, rfl⟩ := h
    have d0 : decide (s0_2 = 0) = false := decide_eq_false h0
    go_enter Tryd.func15, Tryd.ntmps15
    go_wp2_with (go_at_call 49; refine (num_Reader_ok.walk g _ _ _ _ w0 _ hI0).mono ?_; rintro e w' ⟨he, rfl⟩; rw [d0] at he; subst he)
    go_ret
    exact ⟨rfl, hI0, hB, KeepBut.refl _ _ _⟩
  rw [if_neg h0] at h
  by_cases hb0 : 0 ≤ s0_1 ∧ s0_1 ≤ (s0_0.length : Int)
  case neg => rw [if_neg hb0] at h; cases h
  rw [if_pos hb0] at h
  obtain ⟨⟨t1, t2, t3⟩, ht, h⟩ := Option.bind_eq_some_iff.mp h
  obtain ⟨⟨u1, u2, u3⟩, hu, h⟩ := Option.bind_eq_some_iff.mp h
  simp only [Option.some.injEq, Prod.mk.injEq] at h
  obtain ⟨rfl, rfl, rfl, rfl⟩ := h
  obtain ⟨hb1, hb2⟩ := hb0
  have h0 : s0_2 = 0 := by simpa using h0
  have d0 : decide (s0_2 = 0) = true := decide_eq_true h0
  obtain ⟨_, hcc, hC⟩ := Kd.R_reads' hr
  have hmid := Kd.C_drop (m := s0_1.toNat) hC (by omega) hcc
  have hmid : (Kd.int .u8).C w (if c1 = s0_1.toNat then A1 else A1.map (fun x => x.add s0_1.toNat)) (s0_0.drop s0_1.toNat).length (s0_0.drop s0_1.toNat) := by simpa [Kd.int, Kd.scalar] using hmid
  have hst : s0_0.length - s0_1.toNat = (s0_0.drop s0_1.toNat).length := by rw [List.length_drop]
  have hle : (s0_0.drop s0_1.toNat).length ≤ c1 - s0_1.toNat := by omega
  have hl5 : s0_1 ≤ (c1 : Int) := by omega
  have hKC : (Kd.int .u8).C w.drew (if c1 = s0_1.toNat then A1 else A1.map (fun x => x.add s0_1.toNat)) (s0_0.drop s0_1.toNat).length (s0_0.drop s0_1.toNat) := Kd.C_below hmid (below_drew1 (Below.refl _ _))
  have hLK := fun (A0 : Option Addr) (c0 : Nat) (W : World) h1 h2 => num_short.calls k A0 c0 (s0_0.drop s0_1.toNat) t1 t2 t3 W h1 h2 ht
  generalize hL : s0_0.drop s0_1.toNat = l1 at *
  clear hmid hL ht hC hr hf hb
  by_cases hcs : c1 = s0_1.toNat
  case' pos => rw [if_pos hcs] at hKC; subst hcs
  case' neg => rw [if_neg hcs] at hKC
  all_goals
    go_enter Tryd.func15, Tryd.ntmps15
    go_wp2_with (go_at_call 49; refine (num_Reader_ok.walk g _ _ _ _ w0 _ hI0).mono ?_; rintro e w' ⟨he, rfl⟩; rw [d0] at he; subst he)
    go_region_with (go_at_call 50; refine (hLK _ _ _ hKC (by omega)).mono ?_; rintro e w2 ⟨rfl, ⟨m, rfl⟩⟩)
    all_goals
      go_wp2_with (go_at_call 17; refine (num_Reader_Fail.calls g _ _ _ _ t3 u1 u2 u3 w0 _ (by repeat (first | exact hI0 | apply IsS71.drewN | apply IsS71.drew)) (by repeat (first | exact hB | apply pw_below_drewN | apply below_drew1)) hu).mono ?_; rintro e w3 ⟨rfl, hI3, hB3, hK3⟩; obtain ⟨A3, c3, ev3, hb3, hc30, hc31, hc32, hfz3, _, _⟩ := hI3.open)
      go_ret
      exact ⟨rfl, hI3.set_1 _, hB3.setCell (p := ⟨g, 1, none⟩) hg _, KeepBut.set_ (KeepBut.trans (by repeat (first | exact KeepBut.refl _ _ _ | apply keep_drewN | apply keep_drew)) hK3 (.inl rfl)) _ _⟩

-- NOT PRINTED: function 62 (reflectlite_ValueOf)

-- NOT PRINTED: function 63 (reflectlite_Value_Type)

-- NOT PRINTED: function 64 (reflectlite_Value_IsNil)

-- NOT PRINTED: function 73 (reflectlite_TypeOf)

-- NOT PRINTED: function 74 (reflectlite_Value_Elem)

-- NOT PRINTED: function 75 (reflectlite_Value_Set)

-- NOT PRINTED: function 65 (errors_as)

-- NOT PRINTED: function 51 (errors_As)

end Go.Proofs.YtjmhfbgpebgcmaaDoor.PNumReads
