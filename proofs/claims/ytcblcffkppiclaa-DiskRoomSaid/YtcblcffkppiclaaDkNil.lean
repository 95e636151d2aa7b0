/- A disk that is none: Rename, Delete, Cut; the law DiskNil's walk. -/
import Derived.Test.YtcblcffkppiclaaDkAwake
namespace Go.Proofs.Ytcblcffkppiclaa.Dk
open Go.RowKit Go.Maps Go.Sort Go.Proofs.Ytcblcffkppiclaa.DkMap Go.Proofs.YtcblcffkppiclaaW.PrintWords Go.Proofs.YtcblcffkppiclaaW.PrintLast Go.Proofs.YtcblcffkppiclaaW.PrintMore Go.Proofs.Ytcblcffkppiclaa.PDiskNil
attribute [local go_sem] max2_int min2_int max_two min_two max_three min_three max_four min_four
set_option linter.unusedVariables false
set_option linter.unusedSimpArgs false
set_option maxHeartbeats 4000000 in
theorem Rename_nil (w : World) (s t : ByteArray) : Calls Try.prog 19 #[.pointer none, .string s, .string t] w fun e w' => e = .returned (.int .i64 1) ∧ Below w.heap.size w w' := by
  go_enter Try.func19, Try.ntmps19
  go_wp2_with (go_at_call 26; (with_reducible refine (deed_nil _ _ _).mono ?_); rintro e w1 ⟨rfl, rfl⟩)
  go_ret
  exact ⟨rfl, below_alloc (below_alloc (below_alloc (Below.refl _ _) _) _) _⟩
set_option maxHeartbeats 4000000 in
theorem Delete_nil (w : World) (s : ByteArray) : Calls Try.prog 20 #[.pointer none, .string s] w fun e w' => e = .returned (.int .i64 1) ∧ Below w.heap.size w w' := by
  go_enter Try.func20, Try.ntmps20
  go_wp2_with (go_at_call 26; (with_reducible refine (deed_nil _ _ _).mono ?_); rintro e w1 ⟨rfl, rfl⟩)
  go_ret
  exact ⟨rfl, below_alloc (below_alloc (Below.refl _ _) _) _⟩
set_option maxHeartbeats 4000000 in
theorem Cut_nil (w : World) (s : ByteArray) (n : Int) : Calls Try.prog 21 #[.pointer none, .string s, .int .i64 n] w fun e w' => e = .returned (.int .i64 1) ∧ Below w.heap.size w w' := by
  go_enter Try.func21, Try.ntmps21
  go_wp2_with (go_at_call 26; (with_reducible refine (deed_nil _ _ _).mono ?_); rintro e w1 ⟨rfl, rfl⟩)
  go_ret
  exact ⟨rfl, below_alloc (below_alloc (Below.refl _ _) _) _⟩
set_option maxHeartbeats 8000000 in
theorem DiskNil_ok (s : ByteArray) (n : Int) (w : World) : Calls Try.prog 5 #[.string s, .int .i64 n] w fun e w' => e = .returned (.bool true) ∧ Below w.heap.size w w' := by
  go_enter Try.func5, Try.ntmps5
  go_wp2_with (first
    | (go_at_call 11; (with_reducible refine (Fuse_nil _ _).mono ?_); rintro e w1 ⟨rfl, rfl⟩)
    | (go_at_call 12; (with_reducible refine (Boot_nil _ _).mono ?_); rintro e w1 ⟨rfl, rfl⟩)
    | (go_at_call 13; (with_reducible refine (Read_nil _ _).mono ?_); rintro e w1 ⟨rfl, rfl⟩)
    | (go_at_call 9; (with_reducible refine (Append_nil _ _ _).mono ?_); rintro e w1 ⟨rfl, rfl⟩)
    | (go_at_call 10; (with_reducible refine (Sync_nil _ _).mono ?_); rintro e w1 ⟨rfl, rfl⟩)
    | (go_at_call 19; (with_reducible refine (Rename_nil _ _ _).mono ?_); rintro e w2 ⟨rfl, t1⟩)
    | (go_at_call 20; (with_reducible refine (Delete_nil _ _).mono ?_); rintro e w3 ⟨rfl, t2⟩; have t3 := below_step t1 t2; clear t1 t2)
    | (go_at_call 21; (with_reducible refine (Cut_nil _ _ _).mono ?_); rintro e w4 ⟨rfl, t4⟩; have t5 := below_step t3 t4; clear t3 t4)
    | (go_at_call 22; (with_reducible refine (Names_nil _).mono ?_); rintro e w1 ⟨rfl, rfl⟩)
    | (go_at_call 17; (with_reducible refine (Used_nil _).mono ?_); rintro e w1 ⟨rfl, rfl⟩)
    | (go_at_call 15; (with_reducible refine (Down_nil _).mono ?_); rintro e w1 ⟨rfl, rfl⟩)
    | (go_at_call 7; (with_reducible refine (awake_ok _).mono ?_); rintro e w7 ⟨rfl, t7⟩; have t8 := below_step t5 t7; clear t5 t7))
  go_ret
  exact ⟨rfl, t8⟩
theorem DiskNil_row (s : ByteArray) (n : Int) (w : World) (_ : s.size ≤ maxLen) (_ : (Lit.int .i64 n).wf = true) : Calls Try.prog 5 #[.string s, .int .i64 n] w fun e w' => e = .returned (.bool true) ∧ Below w.heap.size w w' := DiskNil_ok s n w
end Go.Proofs.Ytcblcffkppiclaa.Dk
