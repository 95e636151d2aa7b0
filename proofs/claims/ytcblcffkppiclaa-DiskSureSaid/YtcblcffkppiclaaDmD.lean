/- The document's example. A disk that is none: Rename, Delete, Cut; the law DiskNil's walk. A file is taken away. Delete. Rename. -/
import Derived.Test.YtcblcffkppiclaaDmC
import Derived.Deep.RegionLaw
import Derived.Lib.SlicesS
namespace Go.Proofs.Ytcblcffkppiclaa.Dk
open Go.RowKit Go.Maps Go.Sort Go.Proofs.Ytcblcffkppiclaa.DkMap Go.Proofs.YtcblcffkppiclaaW.PrintWords Go.Proofs.YtcblcffkppiclaaW.PrintLast Go.Proofs.YtcblcffkppiclaaW.PrintMore Go.Proofs.Ytcblcffkppiclaa.PDiskNil
attribute [local go_sem] max2_int min2_int max_two min_two max_three min_three max_four min_four
set_option linter.unusedVariables false
set_option linter.unusedSimpArgs false
theorem aw1 : append ⟨9, [], -1, false⟩ [97] [1, 2, 3] = (0, ⟨9, [([97], ⟨[1, 2, 3], 0⟩)], -1, false⟩) := by rfl
theorem aw2 : sync ⟨9, [([97], ⟨[1, 2, 3], 0⟩)], -1, false⟩ [97] = (0, ⟨9, [([97], ⟨[1, 2, 3], 3⟩)], -1, false⟩) := by rfl
theorem aw3 : append ⟨9, [([97], ⟨[1, 2, 3], 3⟩)], -1, false⟩ [97] [4] = (0, ⟨9, [([97], ⟨[1, 2, 3, 4], 3⟩)], -1, false⟩) := by rfl
theorem aw4 : boot ⟨9, [([97], ⟨[1, 2, 3, 4], 3⟩)], -1, false⟩ [0] = ⟨9, [([97], ⟨[1, 2, 3], 3⟩)], -1, false⟩ := by
  have e : names [([97], ⟨[1, 2, 3, 4], 3⟩)] = [[97]] := by unfold names keys; simp
  unfold boot
  rw [show (St.mk 9 [([97], ⟨[1, 2, 3, 4], 3⟩)] (-1) false).fl = [([97], ⟨[1, 2, 3, 4], 3⟩)] from rfl, e]
  rfl
theorem aw5 : read ⟨9, [([97], ⟨[1, 2, 3], 3⟩)], -1, false⟩ [97] = ([1, 2, 3], 0) := by rfl
theorem Turn.noBelow {w w' : World} {tag : Tags} (h : Turn w w' noTag tag) : Below w.heap.size w w' := ⟨h.os, h.tape, h.output, h.size, fun k hk => h.block k hk rfl⟩
theorem Dsk.fresh {w : World} {tag : Tags} {p : Nat} {st : St} (h : Dsk Try.prog w tag p st) : ∀ k, w.heap.size ≤ k → tag k = none := by
  obtain ⟨_, M, D, F, h⟩ := h
  exact h.fresh
theorem lit_cell (w : World) (cs : Array Value) (t : TypeId) (j : Nat) : (w.alloc (.cells cs t)).cell? ((⟨w.heap.size, 0, none⟩ : Addr).add j) = cs[j]? := by
  rw [add0]
  exact blk_cell (heap_alloc_new w (.cells cs t)) j
/-- A row of bytes that was made just now. -/
theorem Arg.lit {w : World} {tag : Tags} {p : Nat} {st : St} (h : Dsk Try.prog w tag p st) (xs : List Int) (c : Nat) : Arg (w.alloc (.cells (xs.map (Value.int .u8)).toArray 5)) tag (some ⟨w.heap.size, 0, none⟩) c xs := by
  refine ⟨(by intro e; cases e), fun ad e j u hj => ?_, fun ad e _ => ?_⟩
  · injection e with e
    subst e
    rw [lit_cell]
    simp [hj]
  · injection e with e
    subst e
    exact ⟨by simp, h.fresh _ (Nat.le_refl _)⟩
theorem Kp.lit {w : World} {tag : Tags} {p : Nat} {st : St} (h : Dsk Try.prog w tag p st) (xs : List Int) : Kp (w.alloc (.cells (xs.map (Value.int .i64)).toArray 3)) tag (some ⟨w.heap.size, 0, none⟩) xs.length xs := by
  refine ⟨Nat.le_refl _, fun _ => ⟨_, rfl, by simp, h.fresh _ (Nat.le_refl _), fun j hj => ?_⟩⟩
  rw [lit_cell]
  simp [hj]
theorem Turn.alloc (w : World) (tag : Tags) (o : Obj) : Turn w (w.alloc o) tag tag := Turn.below (below_alloc (Below.refl _ _) o)
theorem hsA : (ByteArray.mk #[97]).size ≤ maxLen := by unfold maxLen; decide
theorem awS1 (w : World) (tag : Tags) (p : Nat) (h : Dsk Try.prog w tag p ⟨9, [], -1, false⟩) :
    Calls Try.prog 9 #[.pointer (some ⟨p, 0, none⟩), .string (ByteArray.mk #[97]), .slice (some ⟨w.heap.size, 0, none⟩) 3 3] (w.alloc (.cells #[.int .u8 1, .int .u8 2, .int .u8 3] 5)) fun e w' => ∃ tag', e = .returned (.int .i64 0) ∧ Dsk Try.prog w' tag' p ⟨9, [([97], ⟨[1, 2, 3], 0⟩)], -1, false⟩ ∧ Turn w w' tag tag' := by
  refine (Append_ok _ tag p _ (Dsk.below h (below_alloc (Below.refl _ _) (.cells (([1, 2, 3] : List Int).map (Value.int .u8)).toArray 5))) (ByteArray.mk #[97]) hsA (some ⟨w.heap.size, 0, none⟩) [1, 2, 3] 3 (Arg.lit h [1, 2, 3] 3) (by decide)).mono ?_
  rintro e w' ⟨tag', he, h2, t2⟩
  rw [show (ByteArray.mk #[97]).data.toList = [97] from rfl, aw1] at he h2
  exact ⟨tag', he, h2, (Turn.alloc w tag _).trans t2⟩
theorem awS2 (w : World) (tag : Tags) (p : Nat) (h : Dsk Try.prog w tag p ⟨9, [([97], ⟨[1, 2, 3], 0⟩)], -1, false⟩) :
    Calls Try.prog 10 #[.pointer (some ⟨p, 0, none⟩), .string (ByteArray.mk #[97])] w fun e w' => e = .returned (.int .i64 0) ∧ Dsk Try.prog w' tag p ⟨9, [([97], ⟨[1, 2, 3], 3⟩)], -1, false⟩ ∧ Turn w w' tag tag := by
  refine (Sync_ok _ tag p _ h (ByteArray.mk #[97]) hsA).mono ?_
  rintro e w' ⟨he, h2, t2⟩
  rw [show (ByteArray.mk #[97]).data.toList = [97] from rfl, aw2] at he h2
  exact ⟨he, h2, t2⟩
theorem awS3 (w : World) (tag : Tags) (p : Nat) (h : Dsk Try.prog w tag p ⟨9, [([97], ⟨[1, 2, 3], 3⟩)], -1, false⟩) :
    Calls Try.prog 9 #[.pointer (some ⟨p, 0, none⟩), .string (ByteArray.mk #[97]), .slice (some ⟨w.heap.size, 0, none⟩) 1 1] (w.alloc (.cells #[.int .u8 4] 5)) fun e w' => ∃ tag', e = .returned (.int .i64 0) ∧ Dsk Try.prog w' tag' p ⟨9, [([97], ⟨[1, 2, 3, 4], 3⟩)], -1, false⟩ ∧ Turn w w' tag tag' := by
  refine (Append_ok _ tag p _ (Dsk.below h (below_alloc (Below.refl _ _) (.cells (([4] : List Int).map (Value.int .u8)).toArray 5))) (ByteArray.mk #[97]) hsA (some ⟨w.heap.size, 0, none⟩) [4] 1 (Arg.lit h [4] 1) (by decide)).mono ?_
  rintro e w' ⟨tag', he, h2, t2⟩
  rw [show (ByteArray.mk #[97]).data.toList = [97] from rfl, aw3] at he h2
  exact ⟨tag', he, h2, (Turn.alloc w tag _).trans t2⟩
theorem awS4 (w : World) (tag : Tags) (p : Nat) (h : Dsk Try.prog w tag p ⟨9, [([97], ⟨[1, 2, 3, 4], 3⟩)], -1, false⟩) :
    Calls Try.prog 12 #[.pointer (some ⟨p, 0, none⟩), .slice (some ⟨w.heap.size, 0, none⟩) 1 1] (w.alloc (.cells #[.int .i64 0] 3)) fun e w' => e = .returned (.tuple #[]) ∧ Dsk Try.prog w' tag p ⟨9, [([97], ⟨[1, 2, 3], 3⟩)], -1, false⟩ ∧ Turn w w' tag tag := by
  refine (Boot_ok _ tag p _ (Dsk.below h (below_alloc (Below.refl _ _) (.cells (([0] : List Int).map (Value.int .i64)).toArray 3))) (some ⟨w.heap.size, 0, none⟩) 1 [0] (by decide) (Kp.lit h [0])).mono ?_
  rintro e w' ⟨he, h2, t2⟩
  rw [aw4] at h2
  exact ⟨he, h2, (Turn.alloc w tag _).trans t2⟩
theorem awS5 (w : World) (tag : Tags) (p : Nat) (h : Dsk Try.prog w tag p ⟨9, [([97], ⟨[1, 2, 3], 3⟩)], -1, false⟩) :
    Calls Try.prog 13 #[.pointer (some ⟨p, 0, none⟩), .string (ByteArray.mk #[97])] w fun e w' => ∃ v, e = .returned (.tuple #[v, .int .i64 0]) ∧ (∃ B, w.heap.size ≤ B ∧ (Kd.int .u8).R 5 w' B (fun _ => True) v [1, 2, 3]) ∧ Below w.heap.size w w' := by
  refine (Read_ok _ tag p _ h (ByteArray.mk #[97]) hsA).mono ?_
  rintro e w' ⟨v, he, h2, t2⟩
  rw [show (ByteArray.mk #[97]).data.toList = [97] from rfl, aw5] at he h2
  exact ⟨v, he, h2, t2⟩
theorem awS6 (w : World) (A : Option Addr) (c : Nat) (hc : 3 ≤ c) (hC : (Kd.int .u8).C w A 3 [1, 2, 3]) :
    Calls Try.prog 14 #[.slice A 3 c, .slice (some ⟨w.heap.size, 0, none⟩) 3 3] (w.alloc (.cells #[.int .u8 1, .int .u8 2, .int .u8 3] 5)) fun e w' => e = .returned (.bool true) ∧ Below w.heap.size w w' := by
  have hb := below_alloc (Below.refl w.heap.size w) (.cells #[.int .u8 1, .int .u8 2, .int .u8 3] 5)
  have h1 : (Kd.int .u8).C (w.alloc (.cells #[.int .u8 1, .int .u8 2, .int .u8 3] 5)) (some ⟨w.heap.size, 0, none⟩) 3 [1, 2, 3] :=
    C_of_cells (l := [1, 2, 3]) rfl (by decide) (fun j hj => by
      rw [lit_cell]
      match j, hj with
      | 0, _ => rfl
      | 1, _ => rfl
      | 2, _ => rfl)
  refine (estreatref01_Same.calls 5 A c [1, 2, 3] (some ⟨w.heap.size, 0, none⟩) 3 [1, 2, 3] true _ (Kd.C_below hC hb) hc h1 (Nat.le_refl _) (by first | decide | kernel_rfl | (simp [estreatref01_Same.f, estreatref01_Same.l0, rd, wrap64]))).mono ?_
  rintro e w' ⟨he, hd⟩
  exact ⟨he, below_step hb hd.below⟩
set_option maxHeartbeats 8000000 in
theorem awake_ok (w : World) : Calls Try.prog 7 #[] w fun e w' => e = .returned (.bool true) ∧ Below w.heap.size w w' := by
  have hN := New_ok w 9 (by omega)
  rw [show ((9 : Nat) : Int) = 9 from rfl] at hN
  have HN := Aside0.mk hN
  clear hN
  go_enter Try.func7, Try.ntmps7
  go_wp2_with (first
    | (go_at_call 8; (with_reducible refine HN.out.mono ?_); rintro e w1 ⟨p, tag, rfl, h1, t1⟩; have T1 := Aside0.mk t1; have H1 := Aside0.mk h1; clear h1 t1)
    | (go_at_call 9; (with_reducible refine (awS1 _ _ _ H1.out).mono ?_); rintro e w2 ⟨tag2, rfl, h2, t2⟩; have H2 := Aside0.mk h2; have T2 := Aside0.mk (T1.out.trans t2); clear h2 t2 H1 T1)
    | (go_at_call 10; (with_reducible refine (awS2 _ _ _ H2.out).mono ?_); rintro e w3 ⟨rfl, h3, t3⟩; have H3 := Aside0.mk h3; have T3 := Aside0.mk (T2.out.trans t3); clear h3 t3 H2 T2)
    | (go_at_call 9; (with_reducible refine (awS3 _ _ _ H3.out).mono ?_); rintro e w4 ⟨tag4, rfl, h4, t4⟩; have H4 := Aside0.mk h4; have T4 := Aside0.mk (T3.out.trans t4); clear h4 t4 H3 T3)
    | (go_at_call 12; (with_reducible refine (awS4 _ _ _ H4.out).mono ?_); rintro e w5 ⟨rfl, h5, t5⟩; have H5 := Aside0.mk h5; have T5 := Aside0.mk (T4.out.trans t5); clear h5 t5 H4 T4)
    | (go_at_call 13; (with_reducible refine (awS5 _ _ _ H5.out).mono ?_); rintro e w6 ⟨v, rfl, ⟨B, hB, hRB⟩, t6⟩; obtain ⟨A6, c6, rfl, hc6, hC6⟩ := Kd.R_reads hRB; have HC6 := Aside0.mk hc6; have H6 := Aside0.mk hC6; have T6 := Aside0.mk (below_step (Turn.noBelow T5.out) t6); clear hRB hC6 hc6 t6 H5 T5)
    | (go_at_call 14; (with_reducible refine (awS6 _ _ _ HC6.out H6.out).mono ?_); rintro e w7 ⟨rfl, t7⟩; have T7 := Aside0.mk (below_step T6.out t7); clear t7))
  go_ret
  exact ⟨rfl, T7.out⟩
end Go.Proofs.Ytcblcffkppiclaa.Dk
namespace Go.Proofs.Ytcblcffkppiclaa.Dk
open Go.RowKit Go.Maps Go.Sort Go.Proofs.Ytcblcffkppiclaa.DkMap Go.Proofs.YtcblcffkppiclaaW.PrintWords Go.Proofs.YtcblcffkppiclaaW.PrintLast Go.Proofs.YtcblcffkppiclaaW.PrintMore Go.Proofs.Ytcblcffkppiclaa.PDiskNil
attribute [local go_sem] max2_int min2_int max_two min_two max_three min_three max_four min_four
set_option linter.unusedVariables false
set_option linter.unusedSimpArgs false
set_option maxHeartbeats 4000000 in
theorem Rename_nil (w : World) (s t : ByteArray) : Calls Try.prog 19 #[.pointer none, .string s, .string t] w fun e w' => e = .returned (.int .i64 1) ∧ Below w.heap.size w w' := by
  go_enter Try.func19, Try.ntmps19
  go_wp2_with (go_at_call 26; (with_reducible refine (deed_nil _ _ _).mono ?_); rintro e w1 ⟨rfl, rfl⟩)
  go_ret
  exact ⟨rfl, below_alloc (below_alloc (below_alloc (Below.refl _ _) _) _) _⟩
set_option maxHeartbeats 4000000 in
theorem Delete_nil (w : World) (s : ByteArray) : Calls Try.prog 20 #[.pointer none, .string s] w fun e w' => e = .returned (.int .i64 1) ∧ Below w.heap.size w w' := by
  go_enter Try.func20, Try.ntmps20
  go_wp2_with (go_at_call 26; (with_reducible refine (deed_nil _ _ _).mono ?_); rintro e w1 ⟨rfl, rfl⟩)
  go_ret
  exact ⟨rfl, below_alloc (below_alloc (Below.refl _ _) _) _⟩
set_option maxHeartbeats 4000000 in
theorem Cut_nil (w : World) (s : ByteArray) (n : Int) : Calls Try.prog 21 #[.pointer none, .string s, .int .i64 n] w fun e w' => e = .returned (.int .i64 1) ∧ Below w.heap.size w w' := by
  go_enter Try.func21, Try.ntmps21
  go_wp2_with (go_at_call 26; (with_reducible refine (deed_nil _ _ _).mono ?_); rintro e w1 ⟨rfl, rfl⟩)
  go_ret
  exact ⟨rfl, below_alloc (below_alloc (Below.refl _ _) _) _⟩
set_option maxHeartbeats 8000000 in
theorem DiskNil_ok (s : ByteArray) (n : Int) (w : World) : Calls Try.prog 5 #[.string s, .int .i64 n] w fun e w' => e = .returned (.bool true) ∧ Below w.heap.size w w' := by
  go_enter Try.func5, Try.ntmps5
  go_wp2_with (first
    | (go_at_call 11; (with_reducible refine (Fuse_nil _ _).mono ?_); rintro e w1 ⟨rfl, rfl⟩)
    | (go_at_call 12; (with_reducible refine (Boot_nil _ _).mono ?_); rintro e w1 ⟨rfl, rfl⟩)
    | (go_at_call 13; (with_reducible refine (Read_nil _ _).mono ?_); rintro e w1 ⟨rfl, rfl⟩)
    | (go_at_call 9; (with_reducible refine (Append_nil _ _ _).mono ?_); rintro e w1 ⟨rfl, rfl⟩)
    | (go_at_call 10; (with_reducible refine (Sync_nil _ _).mono ?_); rintro e w1 ⟨rfl, rfl⟩)
    | (go_at_call 19; (with_reducible refine (Rename_nil _ _ _).mono ?_); rintro e w2 ⟨rfl, t1⟩)
    | (go_at_call 20; (with_reducible refine (Delete_nil _ _).mono ?_); rintro e w3 ⟨rfl, t2⟩; have t3 := below_step t1 t2; clear t1 t2)
    | (go_at_call 21; (with_reducible refine (Cut_nil _ _ _).mono ?_); rintro e w4 ⟨rfl, t4⟩; have t5 := below_step t3 t4; clear t3 t4)
    | (go_at_call 22; (with_reducible refine (Names_nil _).mono ?_); rintro e w1 ⟨rfl, rfl⟩)
    | (go_at_call 17; (with_reducible refine (Used_nil _).mono ?_); rintro e w1 ⟨rfl, rfl⟩)
    | (go_at_call 15; (with_reducible refine (Down_nil _).mono ?_); rintro e w1 ⟨rfl, rfl⟩)
    | (go_at_call 7; (with_reducible refine (awake_ok _).mono ?_); rintro e w7 ⟨rfl, t7⟩; have t8 := below_step t5 t7; clear t5 t7))
  go_ret
  exact ⟨rfl, t8⟩
theorem DiskNil_row (s : ByteArray) (n : Int) (w : World) (_ : s.size ≤ maxLen) (_ : (Lit.int .i64 n).wf = true) : Calls Try.prog 5 #[.string s, .int .i64 n] w fun e w' => e = .returned (.bool true) ∧ Below w.heap.size w w' := DiskNil_ok s n w
end Go.Proofs.Ytcblcffkppiclaa.Dk
namespace Go.Proofs.Ytcblcffkppiclaa.Dk
open Go.RowKit Go.Maps Go.Sort Go.Proofs.Ytcblcffkppiclaa.DkMap Go.Proofs.YtcblcffkppiclaaW.PrintWords Go.Proofs.YtcblcffkppiclaaW.PrintLast Go.Proofs.YtcblcffkppiclaaW.PrintMore Go.Proofs.Ytcblcffkppiclaa.PDiskNil
attribute [local go_sem] max2_int min2_int max_two min_two max_three min_three max_four min_four
set_option linter.unusedVariables false
set_option linter.unusedSimpArgs false
theorem del_none {l : Fl} {s : List UInt8} (h : get l s = none) : del l s = l := by
  induction l with
  | nil => rfl
  | cons a r ih =>
    obtain ⟨k, y⟩ := a
    unfold get at h
    unfold del
    by_cases e : k = s
    · rw [if_pos e] at h; cases h
    · rw [if_neg e] at h ⊢; rw [ih h]
set_option maxHeartbeats 4000000 in
theorem remove_ok (w : World) (tag : Tags) (p M : Nat) (D : DataW Unit) (F : List UInt8 → Option Nat) (st : St) (h : Dk w tag p M D F (used st.fl) st) (hok : st.Ok) (s : ByteArray) (hs : s.size ≤ maxLen) :
    Calls Try.prog 36 #[.pointer (some ⟨p, 0, none⟩), .string s] w fun e w' => e = .returned (.tuple #[]) ∧ (∃ D' F', Dk w' tag p M D' F' (used (del st.fl s.data.toList)) { st with fl := del st.fl s.data.toList } ∧ ∀ t, t ≠ s.data.toList → F' t = F t) ∧ Turn w w' tag tag := by
  obtain ⟨c0, c1, c2, c3, c4⟩ := Dk.cells h
  cases hg : get st.fl s.data.toList with
  | none =>
    have hlk : (Instr.lookup 50 (.map (some M)) (.string s) false).run Try.prog w = .ok (.pointer none) w := Dk.look h s hs none (h.away _ hg)
    rw [del_none hg]
    have H := Aside0.mk h
    clear h hok hg
    go_enter Try.func36, Try.ntmps36
    go_wp2
    go_end0
    exact ⟨rfl, ⟨D, F, H.out, fun _ _ => rfl⟩, Turn.refl _ _⟩
  | some x =>
    obtain ⟨k, hk, v, e1, e2, e3⟩ := h.file _ _ hg
    have hlk : (Instr.lookup 50 (.map (some M)) (.string s) false).run Try.prog w = .ok (.pointer (some ⟨k, 0, none⟩)) w := Dk.look h s hs _ hk
    have hlen : ∃ A c, v = .slice A x.b.length c := by
      rcases e3 with ⟨rfl, e⟩ | ⟨R, cap, cur, rfl, _, e, _⟩
      · exact ⟨_, _, by rw [e]; rfl⟩
      · exact ⟨_, _, rfl⟩
    obtain ⟨A, c, rfl⟩ := hlen
    have f0 : w.cell? ⟨k, 0, none⟩ = some (.slice A x.b.length c) := (blk_cell e1 0).trans rfl
    have hux := get_used hg
    have hfits := hok.fits
    have hroom := hok.room
    have hw : IntKind.i64.wrap ((used st.fl : Int) - (x.b.length : Int)) = (used st.fl : Int) - x.b.length := (IntKind.wrap_i64 _).trans (by omega)
    have hz := Dk.froz h 1
    have hud : (used (del st.fl s.data.toList) : Int) = (used st.fl : Int) - x.b.length := by
      have := used_del st.fl s.data.toList
      rw [hg] at this
      simp at this
      omega
    have hkey := Go.WideMaps.keyOf_string_mk (P := Try.prog) Try.underlying9 hs
    have H := Aside0.mk h
    have HK := Aside0.mk hok.apart
    have HU := Aside0.mk hud
    have HY := Aside0.mk hkey
    clear h hok hg e1 e2 e3 hk hud hkey
    go_enter Try.func36, Try.ntmps36
    go_wp2
    go_region
    have h2 := IsDk.below (Dk.setUsed H.out ((used st.fl : Int) - x.b.length)) (below_drew1 (Below.refl _ _))
    have t2 := (Turn.head H.out 1 (.int .i64 ((used st.fl : Int) - x.b.length))).trans (Turn.below (tag := tag) (below_drew1 (Below.refl _ _)))
    generalize (w.setCell ⟨p, 1, none⟩ (.int .i64 ((used st.fl : Int) - x.b.length))).drew = w2 at h2 t2 ⊢
    clear c0 c1 c2 c3 c4 f0 hz hlk H
    obtain ⟨c0, c1, c2, c3, c4⟩ := Dk.cells h2
    have H2 := Aside0.mk h2
    have T2 := Aside0.mk t2
    clear h2 t2
    go_wp2_with (at_delete; refine wpList_delete_own _ rfl _ _ 50 9 rfl 55 K9 Try.underlying50 ptrElem M _ D rfl H2.out.mp.own _ (.string s.data.toList) rfl HY.out ?_; intro w3 hown hmt)
    go_end0
    obtain ⟨h3, t3⟩ := Dk.dropped H2.out HK.out hown hmt.grown
    refine ⟨rfl, ⟨_, _, by rw [HU.out]; exact h3, fun t ht => if_neg ht⟩, T2.out.trans t3⟩
end Go.Proofs.Ytcblcffkppiclaa.Dk
namespace Go.Proofs.Ytcblcffkppiclaa.Dk
open Go.RowKit Go.Maps Go.Sort Go.Proofs.Ytcblcffkppiclaa.DkMap Go.Proofs.YtcblcffkppiclaaW.PrintWords Go.Proofs.YtcblcffkppiclaaW.PrintLast Go.Proofs.YtcblcffkppiclaaW.PrintMore Go.Proofs.Ytcblcffkppiclaa.PDiskNil
attribute [local go_sem] max2_int min2_int max_two min_two max_three min_three max_four min_four
set_option linter.unusedVariables false
set_option linter.unusedSimpArgs false
set_option maxHeartbeats 4000000 in
theorem deed_go34 (w : World) (tag : Tags) (p : Nat) (st : St) (h : Dsk Try.prog w tag p st) (s : ByteArray) (hs : s.size ≤ maxLen) (hd : st.down = false) (hf : fails st = false) (hn : isName s.data.toList = true) (x : Fi) (hx : get st.fl s.data.toList = some x) (b0 b1 b2 : Value) (R : Ending → World → Prop)
    (hC : ∀ w2 M D F k, Dk w2 tag p M D F (used (burn st).fl) (burn st) → (burn st).Ok → Turn w w2 tag tag → F s.data.toList = some k → Calls Try.prog 34 #[.pointer (some ⟨k, 0, none⟩), b0, b1, b2] w2 fun e w' => (∃ n, e = .returned (.int .i64 n)) ∧ R e w') :
    Calls Try.prog 26 #[.pointer (some ⟨p, 0, none⟩), .string s, .func (.func 34) #[] #[b0, b1, b2]] w R := by
  have c4 := Dsk.cells h
  rw [hd] at c4
  have H := Aside0.mk h
  have HC := Aside0.mk hC
  have HX := Aside0.mk hx
  clear h hC hx
  go_enter Try.func26, Try.ntmps26
  go_wp2_with (first
    | (go_at_call 23; (with_reducible refine (spent_dsk _ _ _ _ H.out).mono ?_); rintro e w1 ⟨he, ⟨hok1, M, D, F, h1⟩, t1⟩; rw [hf] at he; subst he; obtain ⟨k, hk, _⟩ := h1.file s.data.toList x (by rw [burn_fl]; exact HX.out); have H1 := Aside0.mk h1; have T1 := Aside0.mk t1; have HK := Aside0.mk hk; have O1 := Aside0.mk hok1; clear h1 t1 hk hok1)
    | (go_at_call 31; (with_reducible refine (find_ok _ H1.out s hs hn k HK.out).mono ?_); rintro e w2 ⟨rfl, hb⟩; have B2 := Aside0.mk hb; clear hb)
    | (go_at_call 34; (with_reducible refine (HC.out w2 M D F k (IsDk.below H1.out B2.out) O1.out (T1.out.trans (Turn.below B2.out)) HK.out).mono ?_); rintro e w3 ⟨⟨n, rfl⟩, hr⟩))
  exact hr
set_option maxHeartbeats 4000000 in
theorem deed_go37 (w : World) (tag : Tags) (p : Nat) (st : St) (h : Dsk Try.prog w tag p st) (s : ByteArray) (hs : s.size ≤ maxLen) (hd : st.down = false) (hf : fails st = false) (hn : isName s.data.toList = true) (x : Fi) (hx : get st.fl s.data.toList = some x) (b0 b1 : Value) (R : Ending → World → Prop)
    (hC : ∀ w2 M D F k, Dk w2 tag p M D F (used (burn st).fl) (burn st) → (burn st).Ok → Turn w w2 tag tag → F s.data.toList = some k → Calls Try.prog 37 #[.pointer (some ⟨k, 0, none⟩), b0, b1] w2 fun e w' => (∃ n, e = .returned (.int .i64 n)) ∧ R e w') :
    Calls Try.prog 26 #[.pointer (some ⟨p, 0, none⟩), .string s, .func (.func 37) #[] #[b0, b1]] w R := by
  have c4 := Dsk.cells h
  rw [hd] at c4
  have H := Aside0.mk h
  have HC := Aside0.mk hC
  have HX := Aside0.mk hx
  clear h hC hx
  go_enter Try.func26, Try.ntmps26
  go_wp2_with (first
    | (go_at_call 23; (with_reducible refine (spent_dsk _ _ _ _ H.out).mono ?_); rintro e w1 ⟨he, ⟨hok1, M, D, F, h1⟩, t1⟩; rw [hf] at he; subst he; obtain ⟨k, hk, _⟩ := h1.file s.data.toList x (by rw [burn_fl]; exact HX.out); have H1 := Aside0.mk h1; have T1 := Aside0.mk t1; have HK := Aside0.mk hk; have O1 := Aside0.mk hok1; clear h1 t1 hk hok1)
    | (go_at_call 31; (with_reducible refine (find_ok _ H1.out s hs hn k HK.out).mono ?_); rintro e w2 ⟨rfl, hb⟩; have B2 := Aside0.mk hb; clear hb)
    | (go_at_call 37; (with_reducible refine (HC.out w2 M D F k (IsDk.below H1.out B2.out) O1.out (T1.out.trans (Turn.below B2.out)) HK.out).mono ?_); rintro e w3 ⟨⟨n, rfl⟩, hr⟩))
  exact hr
set_option maxHeartbeats 4000000 in
theorem deed_go38 (w : World) (tag : Tags) (p : Nat) (st : St) (h : Dsk Try.prog w tag p st) (s : ByteArray) (hs : s.size ≤ maxLen) (hd : st.down = false) (hf : fails st = false) (hn : isName s.data.toList = true) (x : Fi) (hx : get st.fl s.data.toList = some x) (b0 b1 : Value) (R : Ending → World → Prop)
    (hC : ∀ w2 M D F k, Dk w2 tag p M D F (used (burn st).fl) (burn st) → (burn st).Ok → Turn w w2 tag tag → F s.data.toList = some k → Calls Try.prog 38 #[.pointer (some ⟨k, 0, none⟩), b0, b1] w2 fun e w' => (∃ n, e = .returned (.int .i64 n)) ∧ R e w') :
    Calls Try.prog 26 #[.pointer (some ⟨p, 0, none⟩), .string s, .func (.func 38) #[] #[b0, b1]] w R := by
  have c4 := Dsk.cells h
  rw [hd] at c4
  have H := Aside0.mk h
  have HC := Aside0.mk hC
  have HX := Aside0.mk hx
  clear h hC hx
  go_enter Try.func26, Try.ntmps26
  go_wp2_with (first
    | (go_at_call 23; (with_reducible refine (spent_dsk _ _ _ _ H.out).mono ?_); rintro e w1 ⟨he, ⟨hok1, M, D, F, h1⟩, t1⟩; rw [hf] at he; subst he; obtain ⟨k, hk, _⟩ := h1.file s.data.toList x (by rw [burn_fl]; exact HX.out); have H1 := Aside0.mk h1; have T1 := Aside0.mk t1; have HK := Aside0.mk hk; have O1 := Aside0.mk hok1; clear h1 t1 hk hok1)
    | (go_at_call 31; (with_reducible refine (find_ok _ H1.out s hs hn k HK.out).mono ?_); rintro e w2 ⟨rfl, hb⟩; have B2 := Aside0.mk hb; clear hb)
    | (go_at_call 38; (with_reducible refine (HC.out w2 M D F k (IsDk.below H1.out B2.out) O1.out (T1.out.trans (Turn.below B2.out)) HK.out).mono ?_); rintro e w3 ⟨⟨n, rfl⟩, hr⟩))
  exact hr
theorem Turn.cell {w w' : World} {tag tag' : Tags} (h : Turn w w' tag tag') {a : Addr} (hlt : a.block < w.heap.size) (ht : tag a.block = none) : w'.cell? a = w.cell? a := World.cell?_of_block (h.block _ hlt ht)
/-- A deed that goes through. -/
theorem deed_eq {st : St} {s : List UInt8} {x : Fi} (hd : st.down = false) (hf : fails st = false) (hn : isName s = true) (hx : get st.fl s = some x) (K : St → Fi → Int × St) : deed st s K = K (burn st) x := by
  unfold deed
  rw [if_neg (by rw [hd]; simp), if_neg (by rw [hf]; simp), if_neg (by rw [hn]; simp), hx]
set_option maxHeartbeats 4000000 in
theorem Delete_c (w : World) (tag : Tags) (p M : Nat) (D : DataW Unit) (F : List UInt8 → Option Nat) (st : St) (h : Dk w tag p M D F (used st.fl) st) (hok : st.Ok) (s : ByteArray) (hs : s.size ≤ maxLen) (k : Value) (bd bn : Addr) (hd : w.cell? bd = some (.pointer (some ⟨p, 0, none⟩))) (hn : w.cell? bn = some (.string s)) :
    Calls Try.prog 37 #[k, .pointer (some bd), .pointer (some bn)] w fun e w' => e = .returned (.int .i64 0) ∧ Dsk Try.prog w' tag p { st with fl := del st.fl s.data.toList } ∧ Turn w w' tag tag := by
  have H := Aside0.mk h
  have O := Aside0.mk hok
  clear h hok
  go_enter Try.func37, Try.ntmps37
  go_wp2_with (go_at_call 36; (with_reducible refine (remove_ok _ _ _ _ _ _ _ H.out O.out s hs).mono ?_); rintro e w1 ⟨rfl, ⟨D', F', h1, _⟩, t1⟩; have H1 := Aside0.mk h1; have T1 := Aside0.mk t1; clear h1 t1)
  go_ret
  exact ⟨rfl, ⟨Ok_del O.out _, M, D', F', H1.out⟩, T1.out⟩
set_option maxHeartbeats 4000000 in
theorem Delete_ok (w : World) (tag : Tags) (p : Nat) (st : St) (h : Dsk Try.prog w tag p st) (s : ByteArray) (hs : s.size ≤ maxLen) :
    Calls Try.prog 20 #[.pointer (some ⟨p, 0, none⟩), .string s] w fun e w' => e = .returned (.int .i64 (delete st s.data.toList).1) ∧ Dsk Try.prog w' tag p (delete st s.data.toList).2 ∧ Turn w w' tag tag := by
  unfold delete
  have hb := below_alloc (below_alloc (Below.refl w.heap.size w) (.cells #[.pointer (some ⟨p, 0, none⟩)] 24)) (.cells #[.string s] 9)
  have h2 := Dsk.below h hb
  have T2 := Aside0.mk (Turn.below (tag := tag) hb)
  have e1 := heap_alloc_new (w.alloc (.cells #[.pointer (some ⟨p, 0, none⟩)] 24)) (.cells #[.string s] 9)
  have e0 := (below_alloc (Below.refl (w.alloc (.cells #[.pointer (some ⟨p, 0, none⟩)] 24)).heap.size (w.alloc (.cells #[.pointer (some ⟨p, 0, none⟩)] 24))) (.cells #[.string s] 9)).block w.heap.size (by simp)
  rw [heap_alloc_new] at e0
  have hs1 : (w.alloc (.cells #[.pointer (some ⟨p, 0, none⟩)] 24)).heap.size = w.heap.size + 1 := by simp
  have hs2 : ((w.alloc (.cells #[.pointer (some ⟨p, 0, none⟩)] 24)).alloc (.cells #[.string s] 9)).heap.size = w.heap.size + 2 := by simp
  rw [hs1] at e1
  have n0 := Dsk.fresh h w.heap.size (Nat.le_refl _)
  have n1 := Dsk.fresh h (w.heap.size + 1) (by omega)
  by_cases hx : st.down = true ∨ fails st = true ∨ isName s.data.toList = false ∨ get st.fl s.data.toList = none
  · have HG := Aside0.mk (deed_stop _ tag p st h2 s hs (.func (.func 37) #[] #[.pointer (some ⟨w.heap.size, 0, none⟩), .pointer (some ⟨w.heap.size + 1, 0, none⟩)]) (fun (s' : St) (_ : Fi) => ((0 : Int), { s' with fl := del s'.fl s.data.toList })) hx)
    clear h hx h2 hb n0 n1 e0 e1
    go_enter Try.func20, Try.ntmps20
    go_wp2_with (go_at_call 26; (with_reducible refine HG.out.mono ?_); rintro e w1 ⟨rfl, h1, t1⟩; have H1 := Aside0.mk h1; have T1 := Aside0.mk t1; clear h1 t1)
    go_ret
    exact ⟨rfl, H1.out, T2.out.trans T1.out⟩
  · simp only [not_or, Bool.not_eq_true, Bool.not_eq_false] at hx
    obtain ⟨hd, hf, hn, hg⟩ := hx
    obtain ⟨x, hx⟩ := Option.ne_none_iff_exists'.1 hg
    rw [deed_eq hd hf hn hx]
    have HG := Aside0.mk (deed_go37 _ tag p st h2 s hs hd hf hn x hx (.pointer (some ⟨w.heap.size, 0, none⟩)) (.pointer (some ⟨w.heap.size + 1, 0, none⟩)) (fun e w' => e = .returned (.int .i64 0) ∧ Dsk Try.prog w' tag p { burn st with fl := del (burn st).fl s.data.toList } ∧ Turn _ w' tag tag) (fun w2 M D F k h3 hok2 t2 hk =>
      (Delete_c w2 tag p M D F (burn st) h3 hok2 s hs _ ⟨w.heap.size, 0, none⟩ ⟨w.heap.size + 1, 0, none⟩ ((t2.cell (by rw [hs2]; show w.heap.size < _; omega) n0).trans ((blk_cell e0 0).trans rfl)) ((t2.cell (by rw [hs2]; show w.heap.size + 1 < _; omega) n1).trans ((blk_cell e1 0).trans rfl))).mono (by
      rintro e w3 ⟨rfl, h4, t4⟩
      exact ⟨⟨_, rfl⟩, rfl, h4, t2.trans t4⟩)))
    clear h hx hg h2 hb n0 n1 e0 e1
    go_enter Try.func20, Try.ntmps20
    go_wp2_with (go_at_call 26; (with_reducible refine HG.out.mono ?_); rintro e w1 ⟨rfl, h1, t1⟩; have H1 := Aside0.mk h1; have T1 := Aside0.mk t1; clear h1 t1)
    go_ret
    exact ⟨rfl, H1.out, T2.out.trans T1.out⟩
end Go.Proofs.Ytcblcffkppiclaa.Dk
namespace Go.Proofs.Ytcblcffkppiclaa.Dk
open Go.RowKit Go.Maps Go.Sort Go.Proofs.Ytcblcffkppiclaa.DkMap Go.Proofs.YtcblcffkppiclaaW.PrintWords Go.Proofs.YtcblcffkppiclaaW.PrintLast Go.Proofs.YtcblcffkppiclaaW.PrintMore Go.Proofs.Ytcblcffkppiclaa.PDiskNil
attribute [local go_sem] max2_int min2_int max_two min_two max_three min_three max_four min_four
set_option linter.unusedVariables false
set_option linter.unusedSimpArgs false
set_option linter.unusedSectionVars false
/-- delete, as one step of a region that draws. -/
theorem step_delete_own {H : Type} {P : Program} {w : World} {ops : Array Oper} {o : Oper} {a : Act} {K : Act → World → Prop} {Q : Exit → Act → World → Prop} {E : Prop} (hg : o.guard = none) (m x : Operand) (t k : TypeId) (hop : o.op = Op.call { callee := Callee.builtin Builtin.delete, args := #[m, x], argTypes := #[t, k] })
    (e : TypeId) (KK : Keyed P k) (ht : P.underlying t = some (.map k e)) (R : Value → Option (DataW H × List MemPlace)) (b n : Nat) (D : DataW H)
    (hm : a.eval m = .map (some b)) (hown : w.ownsMap P k R b n D) (key : Value) (kl : Lit) (hx : a.eval x = key) (hkey : keyOf P k key = some kl)
    (hK : ∀ w', w'.ownsMap P k R b n (D.del kl) → w.mapTurned w' b → K (a.put o.dst (.tuple #[])) w') :
    if Region.wanted o (yielded ops a.tmps) = true then Oper.wp P o a w K Q else E := by
  have hw : Region.wanted o (yielded ops a.tmps) = true := by simp [Region.wanted, hg]
  rw [if_pos hw]
  obtain ⟨w', hrun, r1, r2⟩ := hown.drop KK ht hkey o.type
  unfold Oper.wp
  simp [execOp, hop, resolve, invoke, builtin, hm, hx, hrun, Result.andThen]
  exact hK w' r1 r2
def reTag (s t : List UInt8) : Tag → Tag
  | .file r => if r = s then .file t else .file r
  | .row r => if r = s then .row t else .row r
  | x => x
theorem blk_alloc_lt' {w : World} (o : Obj) {k : Nat} (h : k < w.heap.size) : (w.alloc o).heap[k]? = w.heap[k]? := (below_alloc (Below.refl w.heap.size w) o).block k h
def reTags (tag : Tags) (s t : List UInt8) : Tags := fun j => (tag j).map (reTag s t)
theorem IsDk.retag {w : World} {tag : Tags} {p M : Nat} {D : DataW Unit} {F : List UInt8 → Option Nat} {u : Int} {st : St} (h : Dk w tag p M D F u st) {s : List UInt8} (t : List UInt8) (hg : get st.fl s = none) : Dk w (reTags tag s t) p M D F u st := by
  refine ⟨h.head, h.mp, h.size, fun r x hx => ?_, h.away, by unfold reTags; rw [h.tp]; rfl, by unfold reTags; rw [h.tm]; rfl, fun k hk => by unfold reTags; rw [h.fresh k hk]; rfl⟩
  have hr : r ≠ s := fun e => by rw [e, hg] at hx; cases hx
  obtain ⟨k, h1, h2⟩ := h.file r x hx
  refine ⟨k, h1, h2.same (fun _ _ => rfl) (fun j q hq hj => ?_)⟩
  unfold reTags
  rw [hj]
  rcases hq with rfl | rfl
  · show some (if r = s then Tag.row t else Tag.row r) = _
    rw [if_neg hr]
  · show some (if r = s then Tag.file t else Tag.file r) = _
    rw [if_neg hr]
/-- A file that had no name is given one. -/
theorem Dk.renamed {w w4 : World} {tag : Tags} {p M k : Nat} {D : DataW Unit} {F : List UInt8 → Option Nat} {u : Int} {st : St} {s t : List UInt8} {x : Fi} (h : Dk w tag p M D F u st) (hs : get st.fl s = none) (ht : get st.fl t = none) (hb : FBlk w tag s x k)
    (hown : w4.ownsMap Try.prog 9 ptrElem M (st.fl.length + 1) (D.put (.string t) (.lit (.int .u64 (k : Int))))) (hgr : w.grownBy w4 (some M)) :
    Dk w4 (reTags tag s t) p M (D.put (.string t) (.lit (.int .u64 (k : Int)))) (upd F t (some k)) u { st with fl := put st.fl t x } ∧ Turn w w4 tag (reTags tag s t) := by
  have hlen : (put st.fl t x).length = st.fl.length + 1 := by rw [len_put, ht]; rfl
  have h1 := IsDk.retag h t hs
  have hold : ∀ j, j ≠ M → j < w.heap.size → w4.heap[j]? = w.heap[j]? := fun j hne hj => hgr.block j hj (fun e => hne (by injection e))
  have hfs : Maps.has D (.string t) = false := by rw [h.mp.has, h.away t ht]; rfl
  obtain ⟨v, e1, e2, e3⟩ := hb
  have hkt : reTags tag s t k = some (.file t) := by unfold reTags; rw [e2]; show some (if s = s then Tag.file t else _) = _; rw [if_pos rfl]
  have hne : ∀ {j q}, tag j = some q → q ≠ .map → j ≠ M := fun hj hq e => by rw [e, h.tm] at hj; cases hj; exact hq rfl
  have hlt : ∀ {j q}, reTags tag s t j = some q → j < w.heap.size := fun {j q} hj => by
    rcases Nat.lt_or_ge j w.heap.size with h9 | h9
    · exact h9
    · rw [h1.fresh j h9] at hj; cases hj
  have hblk : FBlk w4 (reTags tag s t) t x k := by
    refine ⟨v, (hold k (hne e2 (by intro e; cases e)) (blk_lt e1)).trans e1, hkt, ?_⟩
    rcases e3 with e | ⟨R, cap, cur, f1, f2, f3, f4, f5, f6, f7⟩
    · exact .inl e
    · exact .inr ⟨R, cap, cur, f1, (hold R (hne f7 (by intro e; cases e)) (blk_lt f2)).trans f2, f3, f4, f5, f6, by unfold reTags; rw [f7]; show some (if s = s then Tag.row t else _) = _; rw [if_pos rfl]⟩
  refine ⟨h1.setFile (k := k) (fun r hr => by rw [get_put, if_neg hr]) (by rw [get_put, if_pos rfl]) (by rw [hlen]; exact h.mp.put hown) ?_ (fun r hr => if_neg hr) (if_pos rfl) hblk hgr.size (fun j q hj h5 h6 h7 => hold j (fun e => by rw [e, h1.tm] at hj; cases hj; exact h7 rfl) (hlt hj)) (fun j q hj _ _ => hj) (fun j hj => h1.fresh j (Nat.le_trans hgr.size hj)), ?_⟩
  · rw [hlen, size_put (h.mp.own.tidy K9), hfs, h.size]; rfl
  · exact ⟨hgr.os, hgr.tape, hgr.output, hgr.size, fun j hj hn => hold j (fun e => by rw [e, h.tm] at hn; cases hn) hj, fun j _ hn => by unfold reTags; rw [hn]; rfl⟩
section
variable (w : World) (tag : Tags) (p M k : Nat) (D : DataW Unit) (F : List UInt8 → Option Nat) (st : St) (h : Dk w tag p M D F (used st.fl) st) (hok : st.Ok) (s t : ByteArray) (hs : s.size ≤ maxLen) (ht : t.size ≤ maxLen) (x : Fi) (hx : get st.fl s.data.toList = some x) (hk : F s.data.toList = some k)
  (bt bf bd : Addr) (hd : w.cell? bd = some (.pointer (some ⟨p, 0, none⟩))) (hn : w.cell? bf = some (.string s)) (hn2 : w.cell? bt = some (.string t))
  (hbd : bd.block < w.heap.size ∧ tag bd.block = none) (hbf : bf.block < w.heap.size ∧ tag bf.block = none) (hbt : bt.block < w.heap.size ∧ tag bt.block = none)
include h hok hs ht hx hk hd hn hn2 hbd hbf hbt
set_option maxHeartbeats 4000000 in
theorem Rename_c1 (hT : isName t.data.toList = false) : Calls Try.prog 34 #[.pointer (some ⟨k, 0, none⟩), .pointer (some bt), .pointer (some bf), .pointer (some bd)] w fun e w' => e = .returned (.int .i64 1) ∧ Below w.heap.size w w' := by
  have hs2 : t.size ≤ 9223372036854775807 := by unfold maxLen at ht; omega
  clear h hok hx hk
  go_enter Try.func34, Try.ntmps34
  go_wp2_with (go_at_call 35; (with_reducible refine (isName_ok _ t hs2).mono ?_); rintro e w2 ⟨he, hb⟩; rw [hT] at he; subst he)
  go_ret
  exact ⟨rfl, hb⟩
set_option maxHeartbeats 4000000 in
theorem Rename_c2 (hT : isName t.data.toList = true) (hst : s = t) : Calls Try.prog 34 #[.pointer (some ⟨k, 0, none⟩), .pointer (some bt), .pointer (some bf), .pointer (some bd)] w fun e w' => e = .returned (.int .i64 0) ∧ Below w.heap.size w w' := by
  have hs2 : t.size ≤ 9223372036854775807 := by unfold maxLen at ht; omega
  subst hst
  clear h hok hx hk
  go_enter Try.func34, Try.ntmps34
  go_wp2_with (go_at_call 35; (with_reducible refine (isName_ok _ s hs2).mono ?_); rintro e w2 ⟨he, hb⟩; rw [hT] at he; subst he; have g1 := (World.cell?_of_block (hb.block _ hbt.1)).trans hn2; have g2 := (World.cell?_of_block (hb.block _ hbf.1)).trans hn)
  go_ret
  exact ⟨rfl, hb⟩
set_option maxHeartbeats 4000000 in
theorem Rename_c3 (hT : isName t.data.toList = true) (hst : s ≠ t) (hO2 : ({ st with fl := put (del (del st.fl t.data.toList) s.data.toList) t.data.toList x } : St).Ok) : Calls Try.prog 34 #[.pointer (some ⟨k, 0, none⟩), .pointer (some bt), .pointer (some bf), .pointer (some bd)] w fun e w' => e = .returned (.int .i64 0) ∧ ∃ tag', Dsk Try.prog w' tag' p { st with fl := put (del (del st.fl t.data.toList) s.data.toList) t.data.toList x } ∧ Turn w w' tag tag' := by
  have hs2 : t.size ≤ 9223372036854775807 := by unfold maxLen at ht; omega
  have H := Aside0.mk h
  have O := Aside0.mk hok
  have X := Aside0.mk hx
  have K := Aside0.mk hk
  have hdn : (s.toList == t.toList) = false := (Go.Lib.bytes_beq_false_iff s t).2 hst
  have hkey := Go.WideMaps.keyOf_string_mk (P := Try.prog) Try.underlying9 hs
  have hkey2 := Go.WideMaps.keyOf_string_mk (P := Try.prog) Try.underlying9 ht
  have hst2 : s.data.toList ≠ t.data.toList := fun e => hst (ByteArray.ext (Array.toList_inj.mp e))
  have hus : (used (put (del (del st.fl t.data.toList) s.data.toList) t.data.toList x) : Int) = (used (del st.fl t.data.toList) : Int) := by
    have a1 := used_put (del (del st.fl t.data.toList) s.data.toList) t.data.toList x
    have a2 := used_del (del st.fl t.data.toList) s.data.toList
    rw [get_del (Ok_del hok t.data.toList).apart, if_neg (fun e => hst2 e.symm), get_del hok.apart, if_pos rfl] at a1
    rw [get_del hok.apart, if_neg hst2, hx] at a2
    simp at a1 a2
    omega
  clear h hok hx hk
  go_enter Try.func34, Try.ntmps34
  go_wp2_with (first
    | (go_at_call 35; (with_reducible refine (isName_ok _ t hs2).mono ?_); rintro e w2 ⟨he, hb⟩; rw [hT] at he; subst he; have g1 := (World.cell?_of_block (hb.block _ hbt.1)).trans hn2; have g2 := (World.cell?_of_block (hb.block _ hbf.1)).trans hn; have g3 := (World.cell?_of_block (hb.block _ hbd.1)).trans hd; have B := Aside0.mk hb; clear hb)
    | (go_at_call 36; (with_reducible refine (remove_ok _ _ _ _ _ _ _ (IsDk.below H.out B.out) O.out t ht).mono ?_); rintro e w1 ⟨rfl, ⟨D', F', h1, hF⟩, t1⟩; have H1 := Aside0.mk h1; have HF := Aside0.mk hF; have T1 := Aside0.mk ((Turn.below (tag := tag) B.out).trans t1); clear h1 t1 hF))
  have g4 := (T1.out.cell hbt.1 hbt.2).trans hn2
  have g5 := (T1.out.cell hbf.1 hbf.2).trans hn
  have g6 := (T1.out.cell hbd.1 hbd.2).trans hd
  obtain ⟨c0, c1, c2, c3, c4⟩ := Dk.cells H1.out
  have m1 := H1.out.mp.own
  go_region_law (refine step_delete_own rfl _ _ 50 9 rfl 55 K9 Try.underlying50 ptrElem M _ D' rfl m1 _ (.string s.data.toList) rfl hkey ?_; intro w3 hown hmt)
  all_goals
    have hdr := below_drew1 (Below.refl w1.heap.size w1)
    obtain ⟨h3, t3⟩ := Dk.dropped (IsDk.below H1.out hdr) (Ok_del O.out t.data.toList).apart hown hmt.grown
    have hx1 : get (del st.fl t.data.toList) s.data.toList = some x := by rw [get_del O.out.apart, if_neg hst2]; exact X.out
    obtain ⟨k1, hk1, hblk⟩ := H1.out.file _ _ hx1
    rw [HF.out _ hst2, K.out] at hk1
    injection hk1 with hk1
    subst hk1
    have hblk3 : FBlk w3 tag s.data.toList x k := hblk.same (fun j hj => (hmt.grown.block j (show j < w1.heap.size by rcases hj with hj | hj <;> exact Dk.ltag H1.out hj) (fun e => by injection e with e; rcases hj with hj | hj <;> · rw [e, H1.out.tm] at hj; cases hj)).trans rfl) (fun _ _ _ h => h)
    have T3 := T1.out.trans ((Turn.below (tag := tag) hdr).trans t3)
    have g7 := (T3.cell hbt.1 hbt.2).trans hn2
    have g8 := (T3.cell hbd.1 hbd.2).trans hd
    have hdr3 := below_drew1 (Below.refl w3.heap.size w3)
    have h3d := IsDk.below h3 hdr3
    have hblk4 : FBlk w3.drew tag s.data.toList x k := hblk3.same (fun _ _ => rfl) (fun _ _ _ h => h)
    have T4 := T3.trans (Turn.below (tag := tag) hdr3)
    have hlenm : (del (del st.fl t.data.toList) s.data.toList).length < maxLen := by
      have := (Ok_del (Ok_del O.out t.data.toList) s.data.toList).few
      simp only at this
      unfold maxLen
      omega
    obtain ⟨w4, hrun, hown4, hmt4⟩ := h3d.mp.own.store K9 Try.underlying50 hlenm hkey2 (d := .lit (.int .u64 (k : Int))) (val := .pointer (some ⟨k, 0, none⟩)) (ps := []) rfl
    obtain ⟨c0, c1, c2, c3, c4⟩ := Dk.cells h3
    obtain ⟨h5, t5⟩ := Dk.renamed h3d (s := s.data.toList) (t := t.data.toList) (by show get (del _ _) _ = none; rw [get_del (Ok_del O.out t.data.toList).apart, if_pos rfl]) (by show get (del _ _) _ = none; rw [get_del (Ok_del O.out t.data.toList).apart, if_neg (fun e => hst2 e.symm)]; rw [get_del O.out.apart, if_pos rfl]) hblk4 hown4 hmt4.grown
    have H5 := Aside0.mk h5
    have T5 := Aside0.mk (T4.trans t5)
    clear h5 t5 T4 h3d hblk4 hblk3 hblk h3 t3 hmt hown hown4 hmt4 hx1
    go_wp2
    go_region
    all_goals
      go_wp2
      go_ret
      have e := H5.out
      rw [← hus] at e
      exact ⟨rfl, _, ⟨hO2, M, _, _, e⟩, T5.out⟩
end
set_option maxHeartbeats 4000000 in
theorem Rename_ok (w : World) (tag : Tags) (p : Nat) (st : St) (h : Dsk Try.prog w tag p st) (s t : ByteArray) (hs : s.size ≤ maxLen) (ht : t.size ≤ maxLen) :
    Calls Try.prog 19 #[.pointer (some ⟨p, 0, none⟩), .string s, .string t] w fun e w' => ∃ tag', e = .returned (.int .i64 (rename st s.data.toList t.data.toList).1) ∧ Dsk Try.prog w' tag' p (rename st s.data.toList t.data.toList).2 ∧ Turn w w' tag tag' := by
  have hOk := Ok_rename h.1 s.data.toList t.data.toList
  unfold rename at hOk ⊢
  have hb := below_alloc (below_alloc (below_alloc (Below.refl w.heap.size w) (.cells #[.pointer (some ⟨p, 0, none⟩)] 24)) (.cells #[.string s] 9)) (.cells #[.string t] 9)
  have h2 := Dsk.below h hb
  have T2 := Aside0.mk (Turn.below (tag := tag) hb)
  have hs1 : (w.alloc (.cells #[.pointer (some ⟨p, 0, none⟩)] 24)).heap.size = w.heap.size + 1 := by simp
  have hs2 : ((w.alloc (.cells #[.pointer (some ⟨p, 0, none⟩)] 24)).alloc (.cells #[.string s] 9)).heap.size = w.heap.size + 2 := by simp
  have hs3 : (((w.alloc (.cells #[.pointer (some ⟨p, 0, none⟩)] 24)).alloc (.cells #[.string s] 9)).alloc (.cells #[.string t] 9)).heap.size = w.heap.size + 3 := by simp
  have e2 := heap_alloc_new ((w.alloc (.cells #[.pointer (some ⟨p, 0, none⟩)] 24)).alloc (.cells #[.string s] 9)) (.cells #[.string t] 9)
  have e1 := heap_alloc_new (w.alloc (.cells #[.pointer (some ⟨p, 0, none⟩)] 24)) (.cells #[.string s] 9)
  have e0 := heap_alloc_new w (.cells #[.pointer (some ⟨p, 0, none⟩)] 24)
  rw [← blk_alloc_lt' (.cells #[.string s] 9) (by omega), ← blk_alloc_lt' (.cells #[.string t] 9) (by omega)] at e0
  rw [hs1, ← blk_alloc_lt' (.cells #[.string t] 9) (by omega)] at e1
  rw [hs2] at e2
  have n0 := Dsk.fresh h w.heap.size (Nat.le_refl _)
  have n1 := Dsk.fresh h (w.heap.size + 1) (by omega)
  have n2 := Dsk.fresh h (w.heap.size + 2) (by omega)
  by_cases hx : st.down = true ∨ fails st = true ∨ isName s.data.toList = false ∨ get st.fl s.data.toList = none
  · have HG := Aside0.mk (deed_stop _ tag p st h2 s hs (.func (.func 34) #[] #[.pointer (some ⟨w.heap.size + 2, 0, none⟩), .pointer (some ⟨w.heap.size + 1, 0, none⟩), .pointer (some ⟨w.heap.size, 0, none⟩)]) (fun (s' : St) (f : Fi) => if isName t.data.toList = false then ((1 : Int), s') else if s.data.toList = t.data.toList then ((0 : Int), s') else ((0 : Int), { s' with fl := put (del (del s'.fl t.data.toList) s.data.toList) t.data.toList f })) hx)
    clear h hx h2 hb n0 n1 n2 e0 e1 e2 hOk
    generalize deed st s.data.toList (fun (s' : St) (f : Fi) => if isName t.data.toList = false then ((1 : Int), s') else if s.data.toList = t.data.toList then ((0 : Int), s') else ((0 : Int), { s' with fl := put (del (del s'.fl t.data.toList) s.data.toList) t.data.toList f })) = r at HG ⊢
    go_enter Try.func19, Try.ntmps19
    go_wp2_with (go_at_call 26; (with_reducible refine HG.out.mono ?_); rintro e w1 ⟨rfl, h1, t1⟩; have H1 := Aside0.mk h1; have T1 := Aside0.mk t1; clear h1 t1)
    go_ret
    exact ⟨tag, rfl, H1.out, T2.out.trans T1.out⟩
  · simp only [not_or, Bool.not_eq_true, Bool.not_eq_false] at hx
    obtain ⟨hd, hf, hn, hg⟩ := hx
    obtain ⟨x, hx⟩ := Option.ne_none_iff_exists'.1 hg
    rw [deed_eq hd hf hn hx] at hOk ⊢
    have HO := Aside0.mk hOk
    have HG := Aside0.mk (deed_go34 _ tag p st h2 s hs hd hf hn x hx (.pointer (some ⟨w.heap.size + 2, 0, none⟩)) (.pointer (some ⟨w.heap.size + 1, 0, none⟩)) (.pointer (some ⟨w.heap.size, 0, none⟩)) (fun e w' => ∃ tag', e = .returned (.int .i64 (if isName t.data.toList = false then ((1 : Int), burn st) else if s.data.toList = t.data.toList then ((0 : Int), burn st) else ((0 : Int), { burn st with fl := put (del (del (burn st).fl t.data.toList) s.data.toList) t.data.toList x })).1) ∧ Dsk Try.prog w' tag' p (if isName t.data.toList = false then ((1 : Int), burn st) else if s.data.toList = t.data.toList then ((0 : Int), burn st) else ((0 : Int), { burn st with fl := put (del (del (burn st).fl t.data.toList) s.data.toList) t.data.toList x })).2 ∧ Turn _ w' tag tag') (fun w2 M D F k h3 hok2 t2 hk => by
      have q0 := (t2.cell (a := ⟨w.heap.size, 0, none⟩) (by rw [hs3]; show w.heap.size < _; omega) n0).trans ((blk_cell e0 0).trans rfl)
      have q1 := (t2.cell (a := ⟨w.heap.size + 1, 0, none⟩) (by rw [hs3]; show w.heap.size + 1 < _; omega) n1).trans ((blk_cell e1 0).trans rfl)
      have q2 := (t2.cell (a := ⟨w.heap.size + 2, 0, none⟩) (by rw [hs3]; show w.heap.size + 2 < _; omega) n2).trans ((blk_cell e2 0).trans rfl)
      have l := t2.size
      rw [hs3] at l
      have b0 := (⟨Nat.lt_of_lt_of_le (by omega) l, t2.tags w.heap.size (by rw [hs3]; omega) n0⟩ : w.heap.size < w2.heap.size ∧ tag w.heap.size = none)
      have b1 := (⟨Nat.lt_of_lt_of_le (by omega) l, t2.tags (w.heap.size + 1) (by rw [hs3]; omega) n1⟩ : w.heap.size + 1 < w2.heap.size ∧ tag (w.heap.size + 1) = none)
      have b2 := (⟨Nat.lt_of_lt_of_le (by omega) l, t2.tags (w.heap.size + 2) (by rw [hs3]; omega) n2⟩ : w.heap.size + 2 < w2.heap.size ∧ tag (w.heap.size + 2) = none)
      have hxb : get (burn st).fl s.data.toList = some x := by rw [burn_fl]; exact hx
      by_cases hT : isName t.data.toList = false
      · rw [if_pos hT]
        refine (Rename_c1 w2 tag p M k D F (burn st) h3 hok2 s t hs ht x hxb hk _ _ _ q0 q1 q2 b0 b1 b2 hT).mono ?_
        rintro e w3 ⟨rfl, hb3⟩
        exact ⟨⟨_, rfl⟩, tag, rfl, ⟨hok2, M, D, F, IsDk.below h3 hb3⟩, t2.trans (Turn.below hb3)⟩
      · rw [if_neg hT] at hOk ⊢
        simp only [Bool.not_eq_false] at hT
        by_cases hst : s.data.toList = t.data.toList
        · rw [if_pos hst]
          refine (Rename_c2 w2 tag p M k D F (burn st) h3 hok2 s t hs ht x hxb hk _ _ _ q0 q1 q2 b0 b1 b2 hT (ByteArray.ext (Array.toList_inj.mp hst))).mono ?_
          rintro e w3 ⟨rfl, hb3⟩
          exact ⟨⟨_, rfl⟩, tag, rfl, ⟨hok2, M, D, F, IsDk.below h3 hb3⟩, t2.trans (Turn.below hb3)⟩
        · rw [if_neg hst] at hOk ⊢
          refine (Rename_c3 w2 tag p M k D F (burn st) h3 hok2 s t hs ht x hxb hk _ _ _ q0 q1 q2 b0 b1 b2 hT (fun e => hst (by rw [e])) hOk).mono ?_
          rintro e w3 ⟨rfl, tag', h4, t4⟩
          exact ⟨⟨_, rfl⟩, tag', rfl, h4, t2.trans t4⟩))
    clear h hx hg h2 hb n0 n1 n2 e0 e1 e2 hOk HO
    generalize (if isName t.data.toList = false then ((1 : Int), burn st) else if s.data.toList = t.data.toList then ((0 : Int), burn st) else ((0 : Int), { burn st with fl := put (del (del (burn st).fl t.data.toList) s.data.toList) t.data.toList x })) = r at HG ⊢
    go_enter Try.func19, Try.ntmps19
    go_wp2_with (go_at_call 26; (with_reducible refine HG.out.mono ?_); rintro e w1 ⟨tag', rfl, h1, t1⟩; have H1 := Aside0.mk h1; have T1 := Aside0.mk t1; clear h1 t1)
    go_ret
    exact ⟨tag', rfl, H1.out, T2.out.trans T1.out⟩
end Go.Proofs.Ytcblcffkppiclaa.Dk
