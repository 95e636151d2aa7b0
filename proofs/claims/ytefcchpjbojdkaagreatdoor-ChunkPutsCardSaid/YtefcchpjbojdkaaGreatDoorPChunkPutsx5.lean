/- WRITTEN BY A PROGRAM of this session (wip/tool: a turned copy of the printer), out of the translation: Lean functions with the answers of the Go functions, and the proofs that the Go code comes to them. -/
import Derived.Test.YtefcchpjbojdkaaGreatDoorPChunkPutsx0
import Derived.Test.YtefcchpjbojdkaaGreatDoorPChunkPutsx4
namespace Go.Proofs.YtefcchpjbojdkaaGreatDoor.PChunkPuts
open Go.RowKit Go.Proofs.YtefcchpjbojdkaaGreatDoorW.PrintWords Go.Proofs.YtefcchpjbojdkaaGreatDoorW.PrintLast Go.Proofs.YtefcchpjbojdkaaGreatDoorW.PrintMore
attribute [local go_sem] max2_int min2_int max_two min_two max_three min_three max_four min_four   -- for this text's walks alone
set_option linter.unusedVariables false
set_option linter.unusedSimpArgs false

/-- What a num.Reader's state leads to beside its own block: its bytes' block and its fault's block, told by their types. -/
def NeRd (W : World) (g : Nat) (x : Option Nat) : Prop := some g ≠ x ∧ ∀ F cs t, (t = 127 ∨ t = 5) → W.heap[F]? = some (.cells cs t (0, 0)) → some F ≠ x
/-- An error's value: none, or a fault at a block of its own. -/
def FaultAt (w0 W : World) (ev : Value) (e at_ : Int) : Prop :=
 (e = 0 ∧ at_ = 0 ∧ ev = .nilIface) ∨ (e ≠ 0 ∧ ∃ F, ev = .iface 122 (.pointer (some ⟨F, 0, none⟩)) ∧ W.heap[F]? = some (.cells #[.int .i64 at_, .iface 26 (.int .i64 e)] 127 (0, 0)) ∧ w0.heap.size ≤ F)
theorem FaultAt.same {w0 W W1 : World} {ev : Value} {e at_ : Int} (h : FaultAt w0 W ev e at_) (hk : ∀ (F : Nat) (cs : Array Value), W.heap[F]? = some (.cells cs 127 (0, 0)) → W1.heap[F]? = W.heap[F]?) : FaultAt w0 W1 ev e at_ := by
 rcases h with h | ⟨h0, F, h1, h2, h3⟩
 ·exact .inl h
 ·exact .inr ⟨h0, F, h1, (hk F _ h2).trans h2, h3⟩
/-- The variable of package errors that calls lead to is as the program's start left it. -/
def HG (w : World) : Prop := w.cell? ⟨0, 0, none⟩ = some (.iface 157 (.agg #[.pointer (some ⟨1, 117, none⟩)]))
theorem HG.heap {w W : World} (h : HG w) (hk : ∀ k, k < w.heap.size → W.heap[k]? = w.heap[k]?) : HG W := by
 have h0 : 0 < w.heap.size := Go.block_lt_of_cell (a := ⟨0, 0, none⟩) h
 unfold HG World.cell? at *
 rw [hk 0 h0]; exact h
theorem HG.below {w W : World} (hB : Below w.heap.size w W) (h : HG w) : HG W := h.heap (fun k hk => hB.block k hk)
/-- A num.Reader at block g of W. -/
def IsS119 (w0 W : World) (g : Nat) (f0 : List Int) (f1 : Int) (f2 : Int) (f3 : Int) : Prop :=
 ∃ A0 c0 ev, W.heap[g]? = some (.cells #[.slice A0 f0.length c0, .int .i64 f1, ev] 119 (0, 0)) ∧ w0.heap.size ≤ g ∧ (Kd.int .u8).R 5 W w0.heap.size (fun k => some k = (Value.slice A0 f0.length c0).ownBlock) (.slice A0 f0.length c0) f0 ∧ FaultAt w0 W ev f2 f3 ∧ HG w0
section
variable {w0 W : World} {g : Nat} {f0 : List Int} {f1 f2 f3 : Int}
theorem IsS119.same {W1 : World} (h : IsS119 w0 W g f0 f1 f2 f3) (hk : ∀ (k : Nat) (cs : Array Value) (t : Nat), (t = 119 ∧ k = g ∨ t = 127 ∨ t = 5) → W.heap[k]? = some (.cells cs t (0, 0)) → W1.heap[k]? = W.heap[k]?) : IsS119 w0 W1 g f0 f1 f2 f3 := by
 obtain ⟨A, c, ev, hb, hg, hr, hf, hG⟩ := h
 refine ⟨A, c, ev, (hk g _ _ (.inl ⟨rfl, rfl⟩) hb).trans hb, hg, ?_, hf.same (fun F cs hF => hk F cs _ (.inr (.inl rfl)) hF), hG⟩
 have hty := Kd.R_typed hr
 exact Kd.R_step hr (fun k ho hlt => by obtain ⟨cs, hcs⟩ := hty k ho.symm; exact hk k cs _ (.inr (.inr rfl)) hcs)
theorem IsS119.grown {W1 : World} {row : Option Nat} (h : IsS119 w0 W g f0 f1 f2 f3) (hw : W.grownBy W1 row) (hne : some g ≠ row ∧ ∀ F cs t, (t = 127 ∨ t = 5) → W.heap[F]? = some (.cells cs t (0, 0)) → some F ≠ row) : IsS119 w0 W1 g f0 f1 f2 f3 :=
 h.same (fun k cs t ht hc => hw.block k (blk_lt hc) (by
  rcases ht with ⟨_, rfl⟩ | ht
  ·exact hne.1
  ·exact hne.2 k cs t ht hc))
theorem IsS119.kept {W1 : World} {S : Nat → Prop} (h : IsS119 w0 W g f0 f1 f2 f3) (hk : Kept W W1 S) (hne : ∀ k cs t, (t = 119 ∧ k = g ∨ t = 127 ∨ t = 5) → W.heap[k]? = some (.cells cs t (0, 0)) → ¬ S k) : IsS119 w0 W1 g f0 f1 f2 f3 :=
 h.same (fun k cs t ht hc => hk.2 k (blk_lt hc) (hne k cs t ht hc))
theorem IsS119.below {W1 : World} (h : IsS119 w0 W g f0 f1 f2 f3) (hw : Below W.heap.size W W1) : IsS119 w0 W1 g f0 f1 f2 f3 := h.same (fun k _ _ _ hc => hw.block k (blk_lt hc))
theorem IsS119.alloc (h : IsS119 w0 W g f0 f1 f2 f3) (o : Obj) : IsS119 w0 (W.alloc o) g f0 f1 f2 f3 := h.below (below_alloc (Below.refl _ _) o)
theorem IsS119.drewN (h : IsS119 w0 W g f0 f1 f2 f3) (m : Nat) : IsS119 w0 (W.drewN m) g f0 f1 f2 f3 := h.below (pw_below_drewN (Below.refl _ _) m)
theorem IsS119.drew (h : IsS119 w0 W g f0 f1 f2 f3) : IsS119 w0 W.drew g f0 f1 f2 f3 := h.below (below_drew1 (Below.refl _ _))
theorem IsS119.at_ {w' : World} {m : Nat} (hq : W.drewN m = w') (h : IsS119 w0 W g f0 f1 f2 f3) : IsS119 w0 w' g f0 f1 f2 f3 := by subst hq; exact IsS119.drewN h m
theorem IsS119.lt (h : IsS119 w0 W g f0 f1 f2 f3) : g < W.heap.size := by
 obtain ⟨A, c, ev, hb, _⟩ := h
 exact blk_lt hb
theorem IsS119.ge (h : IsS119 w0 W g f0 f1 f2 f3) : w0.heap.size ≤ g := by
 obtain ⟨A, c, ev, _, hg, _⟩ := h
 exact hg
theorem IsS119.cellset (h : IsS119 w0 W g f0 f1 f2 f3) (j : Nat) (u : Value) : ∃ A0 c0 ev, (W.setCell ⟨g, j, none⟩ u).heap[g]? = some (.cells (#[.slice A0 f0.length c0, .int .i64 f1, ev].setIfInBounds j u) 119 (0, 0)) ∧ w0.heap.size ≤ g ∧ (Kd.int .u8).R 5 (W.setCell ⟨g, j, none⟩ u) w0.heap.size (fun k => some k = (Value.slice A0 f0.length c0).ownBlock) (.slice A0 f0.length c0) f0 ∧ FaultAt w0 (W.setCell ⟨g, j, none⟩ u) ev f2 f3 ∧ HG w0 := by
 obtain ⟨A, c, ev, hb, hg, hr, hf, hG⟩ := h
 have hne := Kd.R_ne hr hb (by decide)
 refine ⟨A, c, ev, blk_set hb j u, hg, Kd.R_far hr (fun k hk (e : k = g) => hne (by rw [← e]; exact hk)) u, hf.same (fun F cs hF => Below.heap_setCell W ⟨g, j, none⟩ u F (fun e => ?_)), hG⟩
 rw [show F = g from e, hb] at hF
 injection hF with hF
 injection hF with _ ht
 exact absurd ht (by decide)
theorem IsS119.fail (h : IsS119 w0 W g f0 f1 f2 f3) {e : Int} (he : e ≠ 0) (at_ : Int) : IsS119 w0 ((W.setCell ⟨g, 2, none⟩ (.iface 122 (.pointer (some ⟨W.heap.size, 0, none⟩)))).alloc (.cells #[.int .i64 at_, .iface 26 (.int .i64 e)] 127)) g f0 f1 e at_ := by
 have hlt := h.lt
 obtain ⟨A, c, ev, hb, hg, hr, hf, hG⟩ := h.cellset 2 (.iface 122 (.pointer (some ⟨W.heap.size, 0, none⟩)))
 refine ⟨A, c, _, blk_below hb (below_alloc (Below.refl _ _) _), hg, Kd.R_below hr (below_alloc (Below.refl _ _) _), .inr ⟨he, W.heap.size, by simp, ?_, by omega⟩, hG⟩
 have := heap_alloc_new (W.setCell ⟨g, 2, none⟩ (.iface 122 (.pointer (some ⟨W.heap.size, 0, none⟩)))) (.cells #[.int .i64 at_, .iface 26 (.int .i64 e)] 127)
 simpa using this
variable {α : Type} {d : Kd α} {e : Nat} {base : Nat} {ok : Nat → Prop} {v : Value} {xs : List α}
theorem IsS119.own_ne (h : IsS119 w0 W g f0 f1 f2 f3) (ho : Kd.R d e W base ok v xs) (ht : e ≠ 119 ∧ e ≠ 127 ∧ e ≠ 5) : NeRd W g v.ownBlock := by
 obtain ⟨A, c, ev, hb, _⟩ := h
 refine ⟨Kd.R_ne ho hb ht.1, ?_⟩
 rintro F cs t (rfl | rfl) hF
 ·exact Kd.R_ne ho hF ht.2.1
 ·exact Kd.R_ne ho hF ht.2.2
theorem IsS119.apart (h : IsS119 w0 W g f0 f1 f2 f3) (ho : Kd.R d e W base ok v xs) (ht : ∀ q, q ∈ e :: d.E → q ≠ 119) : Kd.R d e W base (fun k => ok k ∧ k ≠ g) v xs := by
 obtain ⟨A, c, ev, hb, _⟩ := h
 exact Kd.R_types ho hb ht
end


/-! ### num_NewReader: function 79 -/
theorem IsS119.open {w0 W : World} {g : Nat} {f0 : List Int} {f1 f2 f3 : Int} (h : IsS119 w0 W g f0 f1 f2 f3) :
  ∃ A0 c0 ev, W.heap[g]? = some (.cells #[.slice A0 f0.length c0, .int .i64 f1, ev] 119 (0, 0)) ∧ W.cell? ⟨g, 0, none⟩ = some (.slice A0 f0.length c0) ∧ W.cell? ⟨g, 1, none⟩ = some (.int .i64 f1) ∧ W.cell? ⟨g, 2, none⟩ = some ev ∧ (∀ j, W.frozen? ⟨g, j, none⟩ = false) ∧
   (Kd.int .u8).R 5 W w0.heap.size (fun k => some k = (Value.slice A0 f0.length c0).ownBlock) (.slice A0 f0.length c0) f0 ∧ FaultAt w0 W ev f2 f3 := by
 obtain ⟨A, c, ev, hb, hg, hr, hf, hG⟩ := h
 exact ⟨A, c, ev, hb, (blk_cell hb 0).trans rfl, (blk_cell hb 1).trans rfl, (blk_cell hb 2).trans rfl, fun j => by simp [World.frozen?, hb], hr, hf⟩
end Go.Proofs.YtefcchpjbojdkaaGreatDoor.PChunkPuts
