/- What num.Reader's methods do at a Reader that is none. -/
import Derived.Test.YtjmhfbgpebgcmaaDoorPNumCutx2
import Derived.Test.YtjmhfbgpebgcmaaDoorPNumCutx3
namespace Go.Proofs.YtjmhfbgpebgcmaaDoor.Cut
open Go.RowKit Go.Proofs.YtjmhfbgpebgcmaaDoor.PNumCut Go.Proofs.YtjmhfbgpebgcmaaDoorW.PrintWords Go.Proofs.YtjmhfbgpebgcmaaDoorW.PrintLast Go.Proofs.YtjmhfbgpebgcmaaDoorW.PrintMore
attribute [local go_sem] max2_int min2_int max_two min_two max_three min_three max_four min_four
set_option linter.unusedVariables false
set_option linter.unusedSimpArgs false
set_option maxHeartbeats 4000000 in
theorem ok_nil (W : World) : Calls Tryd.prog 49 #[.pointer none] W fun e w' => e = .returned (.bool false) ∧ W = w' := by
  go_enter Tryd.func49, Tryd.ntmps49
  go_wp2
  go_ret
  exact ⟨rfl, rfl⟩
set_option maxHeartbeats 4000000 in
theorem Fail_nil (W : World) (x : Int) : Calls Tryd.prog 17 #[.pointer none, .int .i64 x] W fun e w' => e = .returned (.tuple #[]) ∧ W = w' := by
  go_enter Tryd.func17, Tryd.ntmps17
  go_wp2_with (go_at_call 49; refine (ok_nil _).mono ?_; rintro e w' ⟨rfl, rfl⟩)
  go_end0
  exact ⟨rfl, rfl⟩
set_option maxHeartbeats 4000000 in
theorem At_nil (W : World) : Calls Tryd.prog 20 #[.pointer none] W fun e w' => e = .returned (.int .i64 0) ∧ W = w' := by
  go_enter Tryd.func20, Tryd.ntmps20
  go_wp2
  go_ret
  exact ⟨rfl, rfl⟩
set_option maxHeartbeats 4000000 in
theorem Left_nil (W : World) : Calls Tryd.prog 21 #[.pointer none] W fun e w' => e = .returned (.int .i64 0) ∧ W = w' := by
  go_enter Tryd.func21, Tryd.ntmps21
  go_wp2
  go_ret
  exact ⟨rfl, rfl⟩
set_option maxHeartbeats 4000000 in
theorem Var_nil (W : World) : Calls Tryd.prog 15 #[.pointer none] W fun e w' => e = .returned (.int .u64 0) ∧ W = w' := by
  go_enter Tryd.func15, Tryd.ntmps15
  go_wp2_with (go_at_call 49; refine (ok_nil _).mono ?_; rintro e w' ⟨rfl, rfl⟩)
  go_ret
  exact ⟨rfl, rfl⟩
set_option maxHeartbeats 4000000 in
theorem Take_nil (W : World) (x : Int) : Calls Tryd.prog 14 #[.pointer none, .int .i64 x] W fun e w' => e = .returned (.slice none 0 0) ∧ W = w' := by
  go_enter Tryd.func14, Tryd.ntmps14
  go_wp2_with (go_at_call 49; refine (ok_nil _).mono ?_; rintro e w' ⟨rfl, rfl⟩)
  go_ret
  exact ⟨rfl, rfl⟩
set_option maxHeartbeats 4000000 in
theorem Blob_nil (W : World) (x : Int) : Calls Tryd.prog 19 #[.pointer none, .int .i64 x] W fun e w' => e = .returned (.slice none 0 0) ∧ W = w' := by
  go_enter Tryd.func19, Tryd.ntmps19
  go_wp2_with (go_at_call 49; refine (ok_nil _).mono ?_; rintro e w' ⟨rfl, rfl⟩)
  go_ret
  exact ⟨rfl, rfl⟩
set_option maxHeartbeats 4000000 in
set_option maxRecDepth 100000 in
theorem Fix_nil (W : World) : Calls Tryd.prog 18 #[.pointer none, .int .i64 3] W fun e w' => e = .returned (.int .u64 0) ∧ W = w' := by
  go_enter Tryd.func18, Tryd.ntmps18
  go_wp2_with (go_at_call 14; refine (Take_nil _ _).mono ?_; rintro e w' ⟨rfl, rfl⟩)
  go_ret
  exact ⟨rfl, rfl⟩
set_option maxHeartbeats 4000000 in
theorem Err_nil (W : World) : Calls Tryd.prog 16 #[.pointer none] W fun e w' => e = .returned (.tuple #[.int .i64 1, .int .i64 0]) ∧ Below W.heap.size W w' := by
  go_enter Tryd.func16, Tryd.ntmps16
  go_wp2
  refine bodyPost_ret (results_cellint rfl _ _ W.heap.size _ rfl ((blk_cell (heap_alloc_new W _) 0).trans rfl) Tryd.underlying30) rfl ?_
  exact ⟨rfl, below_alloc (Below.refl _ _) _⟩
end Go.Proofs.YtjmhfbgpebgcmaaDoor.Cut
