/- The disk's small methods. -/
import Derived.Test.YtcblcffkppiclaaPDiskNilx7
import Derived.Test.YtcblcffkppiclaaDkState
namespace Go.Proofs.Ytcblcffkppiclaa.Dk
open Go.RowKit Go.Maps Go.Proofs.Ytcblcffkppiclaa.DkMap Go.Proofs.YtcblcffkppiclaaW.PrintWords Go.Proofs.YtcblcffkppiclaaW.PrintLast Go.Proofs.YtcblcffkppiclaaW.PrintMore
attribute [local go_sem] max2_int min2_int max_two min_two max_three min_three max_four min_four
set_option linter.unusedVariables false
set_option linter.unusedSimpArgs false
abbrev Dk := IsDk Try.prog
section
variable {w : World} {tag : Tags} {p M : Nat} {D : DataW Unit} {F : List UInt8 → Option Nat} {u : Int} {st : St}
theorem Turn.head (h : Dk w tag p M D F u st) (i : Nat) (v : Value) : Turn w (w.setCell ⟨p, i, none⟩ v) tag tag :=
  have e := setCells_same p [v] i w
  ⟨e.1, e.2.1, e.2.2.1, by simp, fun k hk ht => Below.heap_setCell w ⟨p, i, none⟩ v k (fun e => by rw [e, h.tp] at ht; cases ht), fun _ _ h => h⟩
theorem Dk.setFuse (h : Dk w tag p M D F u st) (n : Int) : Dk (w.setCell ⟨p, 3, none⟩ (.int .i64 n)) tag p M D F u { st with fuse := n } :=
  IsDk.setHead h (st' := { st with fuse := n }) rfl (by rw [blk_set h.head]; simp) (by simp) (fun k hk _ => Below.heap_setCell w ⟨p, 3, none⟩ _ k hk)
theorem Dk.setDown (h : Dk w tag p M D F u st) (b : Bool) : Dk (w.setCell ⟨p, 4, none⟩ (.bool b)) tag p M D F u { st with down := b } :=
  IsDk.setHead h (st' := { st with down := b }) rfl (by rw [blk_set h.head]; simp) (by simp) (fun k hk _ => Below.heap_setCell w ⟨p, 4, none⟩ _ k hk)
theorem Dk.setUsed (h : Dk w tag p M D F u st) (n : Int) : Dk (w.setCell ⟨p, 1, none⟩ (.int .i64 n)) tag p M D F n st :=
  IsDk.setHead h (st' := st) rfl (by rw [blk_set h.head]; simp) (by simp) (fun k hk _ => Below.heap_setCell w ⟨p, 1, none⟩ _ k hk)
theorem Dk.cells (h : Dk w tag p M D F u st) : w.cell? ⟨p, 0, none⟩ = some (.int .i64 st.room) ∧ w.cell? ⟨p, 1, none⟩ = some (.int .i64 u) ∧ w.cell? ⟨p, 2, none⟩ = some (.map (some M)) ∧ w.cell? ⟨p, 3, none⟩ = some (.int .i64 st.fuse) ∧ w.cell? ⟨p, 4, none⟩ = some (.bool st.down) := by
  refine ⟨?_, ?_, ?_, ?_, ?_⟩ <;> rw [blk_cell h.head] <;> rfl
theorem Dk.froz (h : Dk w tag p M D F u st) (i : Nat) : w.frozen? ⟨p, i, none⟩ = false := blk_frozen h.head i
end
section
variable (w : World) (tag : Tags) (p M : Nat) (D : DataW Unit) (F : List UInt8 → Option Nat) (u : Int) (st : St)
set_option maxHeartbeats 4000000 in
theorem fail_ok (h : Dk w tag p M D F u st) : Calls Try.prog 25 #[.pointer (some ⟨p, 0, none⟩)] w fun e w' => e = .returned (.int .i64 15) ∧ Dk w' tag p M D F u { st with down := true } ∧ Turn w w' tag tag := by
  obtain ⟨c0, c1, c2, c3, c4⟩ := Dk.cells h
  have hf := Dk.froz h 4
  go_enter Try.func25, Try.ntmps25
  go_wp2
  go_ret
  exact ⟨rfl, Dk.setDown h true, Turn.head h _ _⟩
set_option maxHeartbeats 4000000 in
theorem spent_ok (h : Dk w tag p M D F u st) (h1 : st.fuse ≤ 9223372036854775807) : Calls Try.prog 23 #[.pointer (some ⟨p, 0, none⟩)] w fun e w' => e = .returned (.bool (fails st)) ∧ Dk w' tag p M D F u (burn st) ∧ Turn w w' tag tag := by
  obtain ⟨c0, c1, c2, c3, c4⟩ := Dk.cells h
  have hf := Dk.froz h 3
  unfold fails burn
  by_cases hp : 0 < st.fuse
  · have e0 : decide (st.fuse = 0) = false := decide_eq_false (by omega)
    rw [e0, if_pos hp]
    go_enter Try.func23, Try.ntmps23
    go_wp2
    go_ret
    exact ⟨rfl, Dk.setFuse h _, Turn.head h _ _⟩
  · rw [if_neg hp]
    go_enter Try.func23, Try.ntmps23
    go_wp2
    go_ret
    exact ⟨rfl, h, Turn.refl _ _⟩
set_option maxHeartbeats 4000000 in
theorem Down_ok (h : Dk w tag p M D F u st) : Calls Try.prog 15 #[.pointer (some ⟨p, 0, none⟩)] w fun e w' => e = .returned (.bool st.down) ∧ w = w' := by
  obtain ⟨c0, c1, c2, c3, c4⟩ := Dk.cells h
  go_enter Try.func15, Try.ntmps15
  go_wp2
  go_ret
  exact ⟨rfl, rfl⟩
set_option maxHeartbeats 4000000 in
theorem Down_nil : Calls Try.prog 15 #[.pointer none] w fun e w' => e = .returned (.bool false) ∧ w = w' := by
  go_enter Try.func15, Try.ntmps15
  go_wp2
  go_ret
  exact ⟨rfl, rfl⟩
set_option maxHeartbeats 4000000 in
theorem up_ok (h : Dk w tag p M D F u st) : Calls Try.prog 33 #[.pointer (some ⟨p, 0, none⟩)] w fun e w' => e = .returned (.bool (!st.down)) ∧ w = w' := by
  obtain ⟨c0, c1, c2, c3, c4⟩ := Dk.cells h
  go_enter Try.func33, Try.ntmps33
  go_wp2
  go_ret
  exact ⟨rfl, rfl⟩
set_option maxHeartbeats 4000000 in
theorem up_nil : Calls Try.prog 33 #[.pointer none] w fun e w' => e = .returned (.bool false) ∧ w = w' := by
  go_enter Try.func33, Try.ntmps33
  go_wp2
  go_ret
  exact ⟨rfl, rfl⟩
set_option maxHeartbeats 4000000 in
theorem Used_ok (h : Dk w tag p M D F u st) : Calls Try.prog 17 #[.pointer (some ⟨p, 0, none⟩)] w fun e w' => e = .returned (.int .i64 (if st.down = true then 0 else u)) ∧ w = w' := by
  obtain ⟨c0, c1, c2, c3, c4⟩ := Dk.cells h
  have H := Aside0.mk h
  cases hd : st.down
  · go_enter Try.func17, Try.ntmps17
    go_wp2_with (go_at_call 33; (with_reducible refine (up_ok _ _ _ _ _ _ _ _ H.out).mono ?_); rintro e w2 ⟨he, rfl⟩; rw [hd] at he; subst he)
    go_ret
    exact ⟨rfl, rfl⟩
  · go_enter Try.func17, Try.ntmps17
    go_wp2_with (go_at_call 33; (with_reducible refine (up_ok _ _ _ _ _ _ _ _ H.out).mono ?_); rintro e w2 ⟨he, rfl⟩; rw [hd] at he; subst he)
    go_ret
    exact ⟨rfl, rfl⟩
set_option maxHeartbeats 4000000 in
theorem Used_nil : Calls Try.prog 17 #[.pointer none] w fun e w' => e = .returned (.int .i64 0) ∧ w = w' := by
  go_enter Try.func17, Try.ntmps17
  go_wp2_with (go_at_call 33; (with_reducible refine (up_nil _).mono ?_); rintro e w2 ⟨rfl, rfl⟩)
  go_ret
  exact ⟨rfl, rfl⟩
set_option maxHeartbeats 4000000 in
theorem Fuse_ok (h : Dk w tag p M D F u st) (n : Int) : Calls Try.prog 11 #[.pointer (some ⟨p, 0, none⟩), .int .i64 n] w fun e w' => e = .returned (.tuple #[]) ∧ Dk w' tag p M D F u { st with fuse := max n (-1) } ∧ Turn w w' tag tag := by
  obtain ⟨c0, c1, c2, c3, c4⟩ := Dk.cells h
  have hf := Dk.froz h 3
  have H := h
  by_cases hn : n < -1
  · rw [show max n (-1) = -1 by omega]
    go_enter Try.func11, Try.ntmps11
    go_wp2
    go_end0
    exact ⟨rfl, Dk.setFuse H _, Turn.head H _ _⟩
  · rw [show max n (-1) = n by omega]
    go_enter Try.func11, Try.ntmps11
    go_wp2
    go_end0
    exact ⟨rfl, Dk.setFuse H _, Turn.head H _ _⟩
set_option maxHeartbeats 4000000 in
theorem Fuse_nil (n : Int) : Calls Try.prog 11 #[.pointer none, .int .i64 n] w fun e w' => e = .returned (.tuple #[]) ∧ w = w' := by
  go_enter Try.func11, Try.ntmps11
  go_wp2
  go_end0
  exact ⟨rfl, rfl⟩
end
end Go.Proofs.Ytcblcffkppiclaa.Dk
