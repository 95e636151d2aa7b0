/- The document's example. -/
import Derived.Test.YtcblcffkppiclaaDkBootW
namespace Go.Proofs.Ytcblcffkppiclaa.Dk
open Go.RowKit Go.Maps Go.Sort Go.Proofs.Ytcblcffkppiclaa.DkMap Go.Proofs.YtcblcffkppiclaaW.PrintWords Go.Proofs.YtcblcffkppiclaaW.PrintLast Go.Proofs.YtcblcffkppiclaaW.PrintMore Go.Proofs.Ytcblcffkppiclaa.PDiskNil
attribute [local go_sem] max2_int min2_int max_two min_two max_three min_three max_four min_four
set_option linter.unusedVariables false
set_option linter.unusedSimpArgs false
theorem aw1 : append ⟨9, [], -1, false⟩ [97] [1, 2, 3] = (0, ⟨9, [([97], ⟨[1, 2, 3], 0⟩)], -1, false⟩) := by rfl
theorem aw2 : sync ⟨9, [([97], ⟨[1, 2, 3], 0⟩)], -1, false⟩ [97] = (0, ⟨9, [([97], ⟨[1, 2, 3], 3⟩)], -1, false⟩) := by rfl
theorem aw3 : append ⟨9, [([97], ⟨[1, 2, 3], 3⟩)], -1, false⟩ [97] [4] = (0, ⟨9, [([97], ⟨[1, 2, 3, 4], 3⟩)], -1, false⟩) := by rfl
theorem aw4 : boot ⟨9, [([97], ⟨[1, 2, 3, 4], 3⟩)], -1, false⟩ [0] = ⟨9, [([97], ⟨[1, 2, 3], 3⟩)], -1, false⟩ := by
  have e : names [([97], ⟨[1, 2, 3, 4], 3⟩)] = [[97]] := by unfold names keys; simp
  unfold boot
  rw [show (St.mk 9 [([97], ⟨[1, 2, 3, 4], 3⟩)] (-1) false).fl = [([97], ⟨[1, 2, 3, 4], 3⟩)] from rfl, e]
  rfl
theorem aw5 : read ⟨9, [([97], ⟨[1, 2, 3], 3⟩)], -1, false⟩ [97] = ([1, 2, 3], 0) := by rfl
theorem Turn.noBelow {w w' : World} {tag : Tags} (h : Turn w w' noTag tag) : Below w.heap.size w w' := ⟨h.os, h.tape, h.output, h.size, fun k hk => h.block k hk rfl⟩
theorem Dsk.fresh {w : World} {tag : Tags} {p : Nat} {st : St} (h : Dsk Try.prog w tag p st) : ∀ k, w.heap.size ≤ k → tag k = none := by
  obtain ⟨_, M, D, F, h⟩ := h
  exact h.fresh
theorem lit_cell (w : World) (cs : Array Value) (t : TypeId) (j : Nat) : (w.alloc (.cells cs t)).cell? ((⟨w.heap.size, 0, none⟩ : Addr).add j) = cs[j]? := by
  rw [add0]
  exact blk_cell (heap_alloc_new w (.cells cs t)) j
/-- A row of bytes that was made just now. -/
theorem Arg.lit {w : World} {tag : Tags} {p : Nat} {st : St} (h : Dsk Try.prog w tag p st) (xs : List Int) (c : Nat) : Arg (w.alloc (.cells (xs.map (Value.int .u8)).toArray 5)) tag (some ⟨w.heap.size, 0, none⟩) c xs := by
  refine ⟨(by intro e; cases e), fun ad e j u hj => ?_, fun ad e _ => ?_⟩
  · injection e with e
    subst e
    rw [lit_cell]
    simp [hj]
  · injection e with e
    subst e
    exact ⟨by simp, h.fresh _ (Nat.le_refl _)⟩
theorem Kp.lit {w : World} {tag : Tags} {p : Nat} {st : St} (h : Dsk Try.prog w tag p st) (xs : List Int) : Kp (w.alloc (.cells (xs.map (Value.int .i64)).toArray 3)) tag (some ⟨w.heap.size, 0, none⟩) xs.length xs := by
  refine ⟨Nat.le_refl _, fun _ => ⟨_, rfl, by simp, h.fresh _ (Nat.le_refl _), fun j hj => ?_⟩⟩
  rw [lit_cell]
  simp [hj]
theorem Turn.alloc (w : World) (tag : Tags) (o : Obj) : Turn w (w.alloc o) tag tag := Turn.below (below_alloc (Below.refl _ _) o)
theorem hsA : (ByteArray.mk #[97]).size ≤ maxLen := by unfold maxLen; decide
theorem awS1 (w : World) (tag : Tags) (p : Nat) (h : Dsk Try.prog w tag p ⟨9, [], -1, false⟩) :
    Calls Try.prog 9 #[.pointer (some ⟨p, 0, none⟩), .string (ByteArray.mk #[97]), .slice (some ⟨w.heap.size, 0, none⟩) 3 3] (w.alloc (.cells #[.int .u8 1, .int .u8 2, .int .u8 3] 5)) fun e w' => ∃ tag', e = .returned (.int .i64 0) ∧ Dsk Try.prog w' tag' p ⟨9, [([97], ⟨[1, 2, 3], 0⟩)], -1, false⟩ ∧ Turn w w' tag tag' := by
  refine (Append_ok _ tag p _ (Dsk.below h (below_alloc (Below.refl _ _) (.cells (([1, 2, 3] : List Int).map (Value.int .u8)).toArray 5))) (ByteArray.mk #[97]) hsA (some ⟨w.heap.size, 0, none⟩) [1, 2, 3] 3 (Arg.lit h [1, 2, 3] 3) (by decide)).mono ?_
  rintro e w' ⟨tag', he, h2, t2⟩
  rw [show (ByteArray.mk #[97]).data.toList = [97] from rfl, aw1] at he h2
  exact ⟨tag', he, h2, (Turn.alloc w tag _).trans t2⟩
theorem awS2 (w : World) (tag : Tags) (p : Nat) (h : Dsk Try.prog w tag p ⟨9, [([97], ⟨[1, 2, 3], 0⟩)], -1, false⟩) :
    Calls Try.prog 10 #[.pointer (some ⟨p, 0, none⟩), .string (ByteArray.mk #[97])] w fun e w' => e = .returned (.int .i64 0) ∧ Dsk Try.prog w' tag p ⟨9, [([97], ⟨[1, 2, 3], 3⟩)], -1, false⟩ ∧ Turn w w' tag tag := by
  refine (Sync_ok _ tag p _ h (ByteArray.mk #[97]) hsA).mono ?_
  rintro e w' ⟨he, h2, t2⟩
  rw [show (ByteArray.mk #[97]).data.toList = [97] from rfl, aw2] at he h2
  exact ⟨he, h2, t2⟩
theorem awS3 (w : World) (tag : Tags) (p : Nat) (h : Dsk Try.prog w tag p ⟨9, [([97], ⟨[1, 2, 3], 3⟩)], -1, false⟩) :
    Calls Try.prog 9 #[.pointer (some ⟨p, 0, none⟩), .string (ByteArray.mk #[97]), .slice (some ⟨w.heap.size, 0, none⟩) 1 1] (w.alloc (.cells #[.int .u8 4] 5)) fun e w' => ∃ tag', e = .returned (.int .i64 0) ∧ Dsk Try.prog w' tag' p ⟨9, [([97], ⟨[1, 2, 3, 4], 3⟩)], -1, false⟩ ∧ Turn w w' tag tag' := by
  refine (Append_ok _ tag p _ (Dsk.below h (below_alloc (Below.refl _ _) (.cells (([4] : List Int).map (Value.int .u8)).toArray 5))) (ByteArray.mk #[97]) hsA (some ⟨w.heap.size, 0, none⟩) [4] 1 (Arg.lit h [4] 1) (by decide)).mono ?_
  rintro e w' ⟨tag', he, h2, t2⟩
  rw [show (ByteArray.mk #[97]).data.toList = [97] from rfl, aw3] at he h2
  exact ⟨tag', he, h2, (Turn.alloc w tag _).trans t2⟩
theorem awS4 (w : World) (tag : Tags) (p : Nat) (h : Dsk Try.prog w tag p ⟨9, [([97], ⟨[1, 2, 3, 4], 3⟩)], -1, false⟩) :
    Calls Try.prog 12 #[.pointer (some ⟨p, 0, none⟩), .slice (some ⟨w.heap.size, 0, none⟩) 1 1] (w.alloc (.cells #[.int .i64 0] 3)) fun e w' => e = .returned (.tuple #[]) ∧ Dsk Try.prog w' tag p ⟨9, [([97], ⟨[1, 2, 3], 3⟩)], -1, false⟩ ∧ Turn w w' tag tag := by
  refine (Boot_ok _ tag p _ (Dsk.below h (below_alloc (Below.refl _ _) (.cells (([0] : List Int).map (Value.int .i64)).toArray 3))) (some ⟨w.heap.size, 0, none⟩) 1 [0] (by decide) (Kp.lit h [0])).mono ?_
  rintro e w' ⟨he, h2, t2⟩
  rw [aw4] at h2
  exact ⟨he, h2, (Turn.alloc w tag _).trans t2⟩
theorem awS5 (w : World) (tag : Tags) (p : Nat) (h : Dsk Try.prog w tag p ⟨9, [([97], ⟨[1, 2, 3], 3⟩)], -1, false⟩) :
    Calls Try.prog 13 #[.pointer (some ⟨p, 0, none⟩), .string (ByteArray.mk #[97])] w fun e w' => ∃ v, e = .returned (.tuple #[v, .int .i64 0]) ∧ (∃ B, w.heap.size ≤ B ∧ (Kd.int .u8).R 5 w' B (fun _ => True) v [1, 2, 3]) ∧ Below w.heap.size w w' := by
  refine (Read_ok _ tag p _ h (ByteArray.mk #[97]) hsA).mono ?_
  rintro e w' ⟨v, he, h2, t2⟩
  rw [show (ByteArray.mk #[97]).data.toList = [97] from rfl, aw5] at he h2
  exact ⟨v, he, h2, t2⟩
theorem awS6 (w : World) (A : Option Addr) (c : Nat) (hc : 3 ≤ c) (hC : (Kd.int .u8).C w A 3 [1, 2, 3]) :
    Calls Try.prog 14 #[.slice A 3 c, .slice (some ⟨w.heap.size, 0, none⟩) 3 3] (w.alloc (.cells #[.int .u8 1, .int .u8 2, .int .u8 3] 5)) fun e w' => e = .returned (.bool true) ∧ Below w.heap.size w w' := by
  have hb := below_alloc (Below.refl w.heap.size w) (.cells #[.int .u8 1, .int .u8 2, .int .u8 3] 5)
  have h1 : (Kd.int .u8).C (w.alloc (.cells #[.int .u8 1, .int .u8 2, .int .u8 3] 5)) (some ⟨w.heap.size, 0, none⟩) 3 [1, 2, 3] :=
    C_of_cells (l := [1, 2, 3]) rfl (by decide) (fun j hj => by
      rw [lit_cell]
      match j, hj with
      | 0, _ => rfl
      | 1, _ => rfl
      | 2, _ => rfl)
  refine (estreatref01_Same.calls 5 A c [1, 2, 3] (some ⟨w.heap.size, 0, none⟩) 3 [1, 2, 3] true _ (Kd.C_below hC hb) hc h1 (Nat.le_refl _) (by first | decide | kernel_rfl | (simp [estreatref01_Same.f, estreatref01_Same.l0, rd, wrap64]))).mono ?_
  rintro e w' ⟨he, hd⟩
  exact ⟨he, below_step hb hd.below⟩
set_option maxHeartbeats 8000000 in
theorem awake_ok (w : World) : Calls Try.prog 7 #[] w fun e w' => e = .returned (.bool true) ∧ Below w.heap.size w w' := by
  have hN := New_ok w 9 (by omega)
  rw [show ((9 : Nat) : Int) = 9 from rfl] at hN
  have HN := Aside0.mk hN
  clear hN
  go_enter Try.func7, Try.ntmps7
  go_wp2_with (first
    | (go_at_call 8; (with_reducible refine HN.out.mono ?_); rintro e w1 ⟨p, tag, rfl, h1, t1⟩; have T1 := Aside0.mk t1; have H1 := Aside0.mk h1; clear h1 t1)
    | (go_at_call 9; (with_reducible refine (awS1 _ _ _ H1.out).mono ?_); rintro e w2 ⟨tag2, rfl, h2, t2⟩; have H2 := Aside0.mk h2; have T2 := Aside0.mk (T1.out.trans t2); clear h2 t2 H1 T1)
    | (go_at_call 10; (with_reducible refine (awS2 _ _ _ H2.out).mono ?_); rintro e w3 ⟨rfl, h3, t3⟩; have H3 := Aside0.mk h3; have T3 := Aside0.mk (T2.out.trans t3); clear h3 t3 H2 T2)
    | (go_at_call 9; (with_reducible refine (awS3 _ _ _ H3.out).mono ?_); rintro e w4 ⟨tag4, rfl, h4, t4⟩; have H4 := Aside0.mk h4; have T4 := Aside0.mk (T3.out.trans t4); clear h4 t4 H3 T3)
    | (go_at_call 12; (with_reducible refine (awS4 _ _ _ H4.out).mono ?_); rintro e w5 ⟨rfl, h5, t5⟩; have H5 := Aside0.mk h5; have T5 := Aside0.mk (T4.out.trans t5); clear h5 t5 H4 T4)
    | (go_at_call 13; (with_reducible refine (awS5 _ _ _ H5.out).mono ?_); rintro e w6 ⟨v, rfl, ⟨B, hB, hRB⟩, t6⟩; obtain ⟨A6, c6, rfl, hc6, hC6⟩ := Kd.R_reads hRB; have HC6 := Aside0.mk hc6; have H6 := Aside0.mk hC6; have T6 := Aside0.mk (below_step (Turn.noBelow T5.out) t6); clear hRB hC6 hc6 t6 H5 T5)
    | (go_at_call 14; (with_reducible refine (awS6 _ _ _ HC6.out H6.out).mono ?_); rintro e w7 ⟨rfl, t7⟩; have T7 := Aside0.mk (below_step T6.out t7); clear t7))
  go_ret
  exact ⟨rfl, T7.out⟩
end Go.Proofs.Ytcblcffkppiclaa.Dk
