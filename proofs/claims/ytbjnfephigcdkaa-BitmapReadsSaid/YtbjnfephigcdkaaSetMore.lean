/- What more of the methods of bitmap.Set do, at a set in memory that shows a list of marks. -/
import Derived.Test.YtbjnfephigcdkaaSet
import Derived.Laws.CopyOwn
namespace Go.Proofs.Ytbjnfephigcdkaa.Bits
open Go.RowKit Go.Proofs.YtbjnfephigcdkaaW.PrintWords Go.Proofs.YtbjnfephigcdkaaW.PrintLast Go.Proofs.YtbjnfephigcdkaaW.PrintMore Go.Proofs.Ytbjnfephigcdkaa.PBitmapPlays
attribute [local go_sem] max2_int min2_int max_two min_two max_three min_three max_four min_four
set_option linter.unusedVariables false
set_option linter.unusedSimpArgs false
/-- A place, held within the set. -/
def clamp (x : List Bool) (i : Int) : Nat := (max 0 (min i x.length)).toNat
theorem ret_int {k : IntKind} {a b : Int} (h : a = b) : Ending.returned (.int k a) = .returned (.int k b) := by rw [h]
set_option maxHeartbeats 4000000 in
theorem Rank_in (W : World) (g b : Nat) (x : List Bool) (c : Nat) (h : IsSet W g b x) (hc : c ≤ x.length) (hp : 0 < c) : Calls Try.prog 46 #[.pointer (some ⟨g, 0, none⟩), .int .i64 c] W fun e w' => e = .returned (.int .i64 (cnt x c)) ∧ Drawn0 W w' := by
  have hle := h.le
  have hc0 : (c : Int) ≤ x.length := by omega
  have hp0 : (0 : Int) < c := by omega
  go_enter Try.func46, Try.ntmps46
  go_wp2_with (go_at_call 42; refine (Len_any _ _ _ _ h).mono ?_; rintro e w' ⟨rfl, rfl⟩)
  go_loopw [5, 14] (fun n k wr => ∃ j : Nat, j ≤ c / 8 ∧ k = .int .i64 j ∧ n = .int .i64 (cnt x (8 * j)) ∧ Drawn0 W wr) (fun _ k _ => c / 8 - (intOf k).toNat)
  case atStart => exact ⟨0, Nat.zero_le _, rfl, rfl, Drawn0.refl _⟩
  case round =>
    obtain ⟨j, hj, rfl, rfl, ⟨m, rfl⟩⟩ := hrel
    have hh := blk_cell h.head 1
    simp at hh
    have hb := cnt_le x (8 * j)
    by_cases hlt : j < c / 8
    · have hc := h.cell (k := j) (by omega)
      have hf := blk_frozen h.row j
      have hp := pop_at x j
      have hb2 := cnt_le x (8 * j + 8)
      have hj2 : (j : Int) < (c : Int) / 8 := by omega
      go_wp2_with (go_at_call 66; refine (bits_OnesCount8.calls _ _ _ hp).mono ?_; rintro e w' ⟨rfl, ⟨m, rfl⟩⟩)
      refine ⟨⟨j + 1, by omega, rfl, by rw [show 8 * (j + 1) = 8 * j + 8 from by omega]; exact congrArg (Value.int .i64) (by omega), Drawn0.mk ⟨_, rfl⟩⟩, by simp [intOf]; omega⟩
    · obtain rfl : j = c / 8 := by omega
      have hp := shl_at x (c / 8) (c % 8) (by omega)
      have hb2 := cnt_le x c
      rw [show 8 * (c / 8) + c % 8 = c from by omega] at hp
      by_cases hm : c % 8 = 0
      · have hm' : (c : Int) % 8 = 0 := by omega
        go_wp2
        go_ret
        exact ⟨by rw [show cnt x c = cnt x (8 * (c / 8)) from by rw [show 8 * (c / 8) = c from by omega]]; rfl, Drawn0.mk ⟨_, rfl⟩⟩
      · have hm' : ¬ (c : Int) % 8 = 0 := by omega
        have hc := h.cell (k := c / 8) (by omega)
        have hf := blk_frozen h.row (c / 8)
        go_wp2_with (go_at_call 66; refine (bits_OnesCount8.calls _ _ _ hp).mono ?_; rintro e w' ⟨rfl, ⟨m, rfl⟩⟩)
        go_ret
        exact ⟨ret_int (by omega), Drawn0.mk ⟨_, rfl⟩⟩
set_option maxHeartbeats 4000000 in
theorem Rank_over (W : World) (g b : Nat) (x : List Bool) (i : Int) (h : IsSet W g b x) (hi : (x.length : Int) < i) (hp : 0 < x.length) : Calls Try.prog 46 #[.pointer (some ⟨g, 0, none⟩), .int .i64 i] W fun e w' => e = .returned (.int .i64 (cnt x x.length)) ∧ Drawn0 W w' := by
  have hle := h.le
  have hp0 : (0 : Int) < x.length := by omega
  go_enter Try.func46, Try.ntmps46
  go_wp2_with (go_at_call 42; refine (Len_any _ _ _ _ h).mono ?_; rintro e w' ⟨rfl, rfl⟩)
  go_loopw [5, 14] (fun n k wr => ∃ j : Nat, j ≤ x.length / 8 ∧ k = .int .i64 j ∧ n = .int .i64 (cnt x (8 * j)) ∧ Drawn0 W wr) (fun _ k _ => x.length / 8 - (intOf k).toNat)
  case atStart => exact ⟨0, Nat.zero_le _, rfl, rfl, Drawn0.refl _⟩
  case round =>
    obtain ⟨j, hj, rfl, rfl, ⟨m, rfl⟩⟩ := hrel
    have hh := blk_cell h.head 1
    simp at hh
    have hb := cnt_le x (8 * j)
    by_cases hlt : j < x.length / 8
    · have hc := h.cell (k := j) (by omega)
      have hf := blk_frozen h.row j
      have hp := pop_at x j
      have hb2 := cnt_le x (8 * j + 8)
      have hj2 : (j : Int) < (x.length : Int) / 8 := by omega
      go_wp2_with (go_at_call 66; refine (bits_OnesCount8.calls _ _ _ hp).mono ?_; rintro e w' ⟨rfl, ⟨m, rfl⟩⟩)
      refine ⟨⟨j + 1, by omega, rfl, by rw [show 8 * (j + 1) = 8 * j + 8 from by omega]; exact congrArg (Value.int .i64) (by omega), Drawn0.mk ⟨_, rfl⟩⟩, by simp [intOf]; omega⟩
    · obtain rfl : j = x.length / 8 := by omega
      have hp := shl_at x (x.length / 8) (x.length % 8) (by omega)
      have hb2 := cnt_le x x.length
      rw [show 8 * (x.length / 8) + x.length % 8 = x.length from by omega] at hp
      by_cases hm : x.length % 8 = 0
      · have hm' : (x.length : Int) % 8 = 0 := by omega
        go_wp2
        go_ret
        exact ⟨by rw [show cnt x x.length = cnt x (8 * (x.length / 8)) from by rw [show 8 * (x.length / 8) = x.length from by omega]]; rfl, Drawn0.mk ⟨_, rfl⟩⟩
      · have hm' : ¬ (x.length : Int) % 8 = 0 := by omega
        have hc := h.cell (k := x.length / 8) (by omega)
        have hf := blk_frozen h.row (x.length / 8)
        go_wp2_with (go_at_call 66; refine (bits_OnesCount8.calls _ _ _ hp).mono ?_; rintro e w' ⟨rfl, ⟨m, rfl⟩⟩)
        go_ret
        exact ⟨ret_int (by omega), Drawn0.mk ⟨_, rfl⟩⟩
set_option maxHeartbeats 4000000 in
theorem Rank_low (W : World) (g b : Nat) (x : List Bool) (i : Int) (h : IsSet W g b x) (hi : i ≤ 0) : Calls Try.prog 46 #[.pointer (some ⟨g, 0, none⟩), .int .i64 i] W fun e w' => e = .returned (.int .i64 0) ∧ Drawn0 W w' := by
  have hle := h.le
  go_enter Try.func46, Try.ntmps46
  go_wp2_with (go_at_call 42; refine (Len_any _ _ _ _ h).mono ?_; rintro e w' ⟨rfl, rfl⟩)
  all_goals
    refine wp_loop_rounds 1 ?_
    rw [rounds_succ]
    go_wp2
    go_ret
    exact ⟨rfl, Drawn0.refl _⟩
set_option maxHeartbeats 4000000 in
theorem Rank_empty (W : World) (g b : Nat) (i : Int) (h : IsSet W g b []) (hi : 0 < i) : Calls Try.prog 46 #[.pointer (some ⟨g, 0, none⟩), .int .i64 i] W fun e w' => e = .returned (.int .i64 0) ∧ Drawn0 W w' := by
  go_enter Try.func46, Try.ntmps46
  go_wp2_with (go_at_call 42; refine (Len_any _ _ _ _ h).mono ?_; rintro e w' ⟨rfl, rfl⟩)
  all_goals
    refine wp_loop_rounds 1 ?_
    rw [rounds_succ]
    go_wp2
    go_ret
    exact ⟨rfl, Drawn0.refl _⟩
theorem Rank_any (W : World) (g b : Nat) (x : List Bool) (i : Int) (h : IsSet W g b x) : Calls Try.prog 46 #[.pointer (some ⟨g, 0, none⟩), .int .i64 i] W fun e w' => e = .returned (.int .i64 (cnt x (clamp x i))) ∧ Drawn0 W w' := by
  by_cases h0 : i ≤ 0
  · rw [show clamp x i = 0 from by unfold clamp; omega]
    exact Rank_low W g b x i h h0
  · by_cases h1 : i ≤ x.length
    · obtain ⟨c, rfl⟩ := Int.eq_ofNat_of_zero_le (show 0 ≤ i by omega)
      rw [show clamp x c = c from by unfold clamp; omega]
      exact Rank_in W g b x c h (by omega) (by omega)
    · rw [show clamp x i = x.length from by unfold clamp; omega]
      by_cases h2 : x.length = 0
      · obtain rfl : x = [] := List.eq_nil_of_length_eq_zero h2
        exact Rank_empty W g b i h (by omega)
      · exact Rank_over W g b x i h (by omega) (by omega)
theorem IsSet.drawn {W W' : World} {g b : Nat} {x : List Bool} (h : IsSet W g b x) (hd : Drawn0 W W') : IsSet W' g b x := h.below hd.below
theorem cnt_all (x : List Bool) : cnt x (clamp x x.length) = cnt x x.length := by rw [show clamp x x.length = x.length from by unfold clamp; omega]
set_option maxHeartbeats 4000000 in
theorem Count_any (W : World) (g b : Nat) (x : List Bool) (h : IsSet W g b x) : Calls Try.prog 47 #[.pointer (some ⟨g, 0, none⟩)] W fun e w' => e = .returned (.int .i64 (cnt x x.length)) ∧ Drawn0 W w' := by
  have hR := Rank_any W g b x x.length h
  rw [cnt_all] at hR
  go_enter Try.func47, Try.ntmps47
  go_wp2_with (first | (go_at_call 42; refine (Len_any _ _ _ _ h).mono ?_; rintro e w' ⟨rfl, rfl⟩) | (go_at_call 46; refine hR.mono ?_; rintro e w' ⟨rfl, ⟨m, rfl⟩⟩))
  go_ret
  exact ⟨rfl, Drawn0.mk ⟨_, rfl⟩⟩
set_option maxHeartbeats 4000000 in
theorem Rank_nil (W : World) (i : Int) : Calls Try.prog 46 #[.pointer none, .int .i64 i] W fun e w' => e = .returned (.int .i64 0) ∧ W = w' := by
  go_enter Try.func46, Try.ntmps46
  go_wp2_with (go_at_call 42; refine (Len_nil _).mono ?_; rintro e w' ⟨rfl, rfl⟩)
  all_goals
    refine wp_loop_rounds 1 ?_
    rw [rounds_succ]
    go_wp2
    go_ret
    exact ⟨rfl, rfl⟩
set_option maxHeartbeats 4000000 in
theorem Count_nil (W : World) : Calls Try.prog 47 #[.pointer none] W fun e w' => e = .returned (.int .i64 0) ∧ W = w' := by
  go_enter Try.func47, Try.ntmps47
  go_wp2_with (first | (go_at_call 42; refine (Len_nil _).mono ?_; rintro e w' ⟨rfl, rfl⟩) | (go_at_call 46; refine (Rank_nil _ _).mono ?_; rintro e w' ⟨rfl, rfl⟩))
  go_ret
  exact ⟨rfl, rfl⟩
set_option maxHeartbeats 4000000 in
theorem Bytes_nil (W : World) : Calls Try.prog 40 #[.pointer none] W fun e w' => e = .returned (.slice none 0 0) ∧ W = w' := by
  go_enter Try.func40, Try.ntmps40
  go_wp2
  go_ret
  exact ⟨rfl, rfl⟩
set_option maxHeartbeats 4000000 in
theorem Copy_nil (W : World) : Calls Try.prog 55 #[.pointer none] W fun e w' => e = .returned (.pointer none) ∧ W = w' := by
  go_enter Try.func55, Try.ntmps55
  go_wp2
  go_ret
  exact ⟨rfl, rfl⟩
set_option maxHeartbeats 4000000 in
theorem All_nil (W : World) : Calls Try.prog 58 #[.pointer none] W fun e w' => e = .returned (.slice none 0 0) ∧ W = w' := by
  go_enter Try.func58, Try.ntmps58
  go_wp2_with (go_at_call 42; refine (Len_nil _).mono ?_; rintro e w' ⟨rfl, rfl⟩)
  refine wp_loop_rounds 1 ?_
  rw [rounds_succ]
  go_wp2
  go_ret
  exact ⟨rfl, rfl⟩
set_option maxHeartbeats 4000000 in
theorem Bytes_any (W : World) (g b : Nat) (x : List Bool) (h : IsSet W g b x) : Calls Try.prog 40 #[.pointer (some ⟨g, 0, none⟩)] W fun e w' => ∃ c, e = .returned (.slice (some ⟨c, 0, none⟩) ((x.length + 7) / 8) ((x.length + 7) / 8)) ∧ w'.heap[c]? = some (.cells ((pack x).map (Value.int .u8)).toArray 5 (0, 0)) ∧ W.heap.size ≤ c ∧ Below W.heap.size W w' := by
  have e1 : ∀ w, (binOp BinOp.eql 45 (.pointer (some ⟨g, 0, none⟩)) (.pointer none)).run Try.prog w = .ok (.bool false) w := fun w => by kernel_rfl
  have hh := blk_cell h.head 1
  simp at hh
  have hle := h.le
  have hlt := blk_lt h.head
  have hmk := print_make_int (P := Try.prog) 22 5 (.int .u8 0) 1 Try.underlying22 info5 rfl (by decide) (((x.length : Int) + 7) / 8) (by omega) (by omega)
  rw [show (((x.length : Int) + 7) / 8).toNat = (x.length + 7) / 8 from by omega, made_zeros] at hmk
  go_enter Try.func40, Try.ntmps40
  go_wp2_with (refine wpList_copy_splice rfl (.tmp 12) (.tmp 16) 22 22 rfl 5 Try.underlying22 (by kernel_rfl) _ _ _ _ _ _ rfl rfl W.heap.size 0 (List.replicate ((x.length + 7) / 8) (Value.int .u8 0)) 5 ?c1 ((pack x).map (Value.int .u8)) ?c2 ?c3 ?c4 ?c5 W.heap.size W ?c6 (Nat.le_refl _) ?_)
  case c1 => simpa using heap_alloc_new W (.cells (Array.replicate ((x.length + 7) / 8) (Value.int IntKind.u8 0)) 5)
  case c2 => simp [pack_len]
  case c3 =>
    intro _ j v hj
    have hS := h.below (below_alloc (Below.refl _ _) (.cells (Array.replicate ((x.length + 7) / 8) (Value.int IntKind.u8 0)) 5))
    rw [blk_cell hS.row j]
    simp [hj]
  case c4 => simp [pack_len]
  case c5 => intro v hv; obtain ⟨z, _, rfl⟩ := List.mem_map.1 hv; rfl
  case c6 => exact below_alloc (Below.refl _ _) _
  intro w' hw hb
  have hs : splice (List.replicate ((x.length + 7) / 8) (Value.int IntKind.u8 0)) 0 (List.map (Value.int IntKind.u8) (pack x)) = List.map (Value.int IntKind.u8) (pack x) := by simp [splice, pack_len]
  rw [hs] at hw
  clear hs
  go_wp2
  go_ret
  exact ⟨_, rfl, hw, Nat.le_refl _, hb⟩
/-- The marked places. -/
def allTo (x : List Bool) (n : Nat) : List Int := ((List.range n).filter (fun i => x.getD i false)).map Int.ofNat
theorem allTo_succ (x : List Bool) (n : Nat) : allTo x (n + 1) = allTo x n ++ if x.getD n false then [(n : Int)] else [] := by
  unfold allTo
  rw [List.range_succ, List.filter_append, List.map_append]
  cases hx : x.getD n false <;> simp only [List.filter_cons, List.filter_nil, hx, if_true, if_false, Bool.false_eq_true, ↓reduceIte, List.map_nil, List.map_cons] <;> rfl
theorem allTo_le (x : List Bool) (n : Nat) : (allTo x n).length ≤ n := by
  unfold allTo
  rw [List.length_map]
  exact Nat.le_trans (List.length_filter_le _ _) (by simp)
set_option maxHeartbeats 4000000 in
theorem All_any (W : World) (g b : Nat) (x : List Bool) (h : IsSet W g b x) : Calls Try.prog 58 #[.pointer (some ⟨g, 0, none⟩)] W fun e w' => ∃ v, e = .returned v ∧ (Kd.int .i64).R 3 w' W.heap.size (fun _ => True) v (allTo x x.length) ∧ Below W.heap.size W w' := by
  have hle := h.le
  have info3 : (Try.prog.info? 3).map (fun i => (i.zero, i.size, i.bytes)) = some (some (.int .i64 0), 1, 8) := by kernel_rfl
  go_enter Try.func58, Try.ntmps58
  go_wp2_with (go_at_call 42; refine (Len_any _ _ _ _ h).mono ?_; rintro e w' ⟨rfl, rfl⟩)
  go_loopw [3, 7] (fun v k wr => ∃ j : Nat, j ≤ x.length ∧ k = .int .i64 j ∧ Aside0 ((Kd.int .i64).R 3 wr W.heap.size (fun _ => True) v (allTo x j)) ∧ Aside0 (Below W.heap.size W wr)) (fun _ k _ => x.length - (intOf k).toNat)
  case atStart => exact ⟨0, Nat.zero_le _, rfl, ⟨Kd.R_nil _ _ _ _ _⟩, ⟨Below.refl _ _⟩⟩
  case round =>
    rename_i wr
    obtain ⟨j, hj, rfl, HO, HB⟩ := hrel
    have hS := h.below HB.out
    by_cases hlt : j < x.length
    · have hl := allTo_le x j
      have hH := Has_in wr g b x j hS hlt
      have hsu := allTo_succ x j
      have hsz := below_size HB.out
      cases hx : x.getD j false
      · rw [hx] at hH hsu
        have HS : allTo x (j + 1) = allTo x j := by rw [hsu]; simp
        have HS := Aside0.mk HS
        clear hsu hx
        go_wp2_with (go_at_call 45; refine hH.mono ?_; rintro e w' ⟨rfl, rfl⟩)
        exact ⟨⟨j + 1, by omega, rfl, by rw [HS.out]; exact HO, HB⟩, by simp [intOf]; omega⟩
      · rw [hx] at hH hsu
        have HS := Aside0.mk hsu
        clear hsu hx
        go_wp2_with (first | (go_at_call 45; refine hH.mono ?_; rintro e w' ⟨rfl, rfl⟩) | (at_builtin; refine Kd.R_append (Kd.int .i64) (w0 := W) W.heap.size rfl (.tmp 13) (.tmp 15) 55 3 (.int .i64 0) 8 rfl Try.underlying55 info3 rfl (by decide) (by omega) u3 (allTo x j) (j : Int) [.int .i64 j] (fun _ => True) (fun _ => False) rfl rfl ?aP (fun _ hk => hk.elim) ?aF ?aO ?aB ?aS ?aL ?_))
        case aP => exact rfl
        case aF => exact fun _ _ => trivial
        case aO => exact HO.out
        case aB => exact HB.out
        case aS => exact hsz
        case aL => omega
        intro v1 w1 hR hB hg hat
        have HR := Aside0.mk hR
        have HB1 := Aside0.mk hB
        clear hR hB hg hat HO HB hS hH
        go_wp2
        exact ⟨⟨j + 1, by omega, rfl, by rw [HS.out]; exact HR, HB1⟩, by simp [intOf]; omega⟩
    · obtain rfl : j = x.length := by omega
      go_wp2
      go_ret
      exact ⟨_, rfl, HO.out, HB.out⟩
set_option maxHeartbeats 4000000 in
theorem Copy_any (W : World) (g b : Nat) (x : List Bool) (h : IsSet W g b x) : Calls Try.prog 55 #[.pointer (some ⟨g, 0, none⟩)] W fun e w' => ∃ g' b', e = .returned (.pointer (some ⟨g', 0, none⟩)) ∧ IsSet w' g' b' x ∧ W.heap.size ≤ g' ∧ W.heap.size ≤ b' ∧ Below W.heap.size W w' := by
  have e1 : ∀ w, (binOp BinOp.eql 45 (.pointer (some ⟨g, 0, none⟩)) (.pointer none)).run Try.prog w = .ok (.bool false) w := fun w => by kernel_rfl
  have hh := blk_cell h.head 0
  simp at hh
  have hlt := blk_lt h.head
  go_enter Try.func55, Try.ntmps55
  go_wp2
  go_region_held3 (fun w' => w'.cell? ⟨g, 0, none⟩ = some (.int .i64 x.length)) (first | exact (hB.cell (p := ⟨g, 0, none⟩) hlt).trans hh | go_keep) ((go_at_call 40; refine (Bytes_any _ _ _ _ (h.drawn (Drawn0.mk ⟨_, rfl⟩))).mono ?_; rintro e w1 ⟨c, rfl, hrow, hge, hB⟩))
  all_goals
    go_wp2
    go_ret
    have hB1 : Below W.heap.size W w1 := (pw_below_drewN (Below.refl _ _) _).trans hB
    have hz : W.heap.size ≤ w1.heap.size := below_size hB1
    refine ⟨w1.heap.size, c, rfl, ⟨?_, blk_below hrow (below_alloc (Below.refl _ _) _), h.le⟩, hz, hge, below_alloc hB1 _⟩
    simpa using heap_alloc_new w1 (.cells #[.int .i64 x.length, .slice (some ⟨c, 0, none⟩) ((x.length + 7) / 8) ((x.length + 7) / 8)] 87)
/-- The marks that bytes show. -/
def unp (l : List Int) (n : Nat) : List Bool := (List.range n).map fun i => (l.getD (i / 8) 0) / 2 ^ (i % 8) % 2 == 1
/-- Why bytes are no marks of n places (0: they are). -/
def readErr (l : List Int) (n : Int) : Int :=
  if n < 0 ∨ 65536 < n then 1 else if (l.length : Int) < (n + 7) / 8 then 2 else if (n + 7) / 8 < (l.length : Int) then 3
  else if n % 8 ≠ 0 ∧ l.getD (l.length - 1) 0 / 2 ^ (n % 8).toNat ≠ 0 then 4 else 0
theorem C_cells {W : World} {A : Option Addr} {l : List Int} (h : (Kd.int .u8).C W A l.length l) (hpos : 0 < l.length) : ∃ ad, A = some ad ∧ ∀ j (hj : j < l.length), W.cell? (ad.add j) = some (.int .u8 (l.getD j 0)) := by
  obtain ⟨h1, h2, hc⟩ := h
  obtain ⟨ad, hA, hd⟩ := hc hpos
  refine ⟨ad, hA, fun j hj => ?_⟩
  obtain ⟨c, hl, hR, hu⟩ := hd j l[j] (by simp [hj])
  have e : c = [.int .u8 l[j]] := hR
  subst e
  have := hu 0 _ rfl
  simpa [Kd.int, Kd.scalar, List.getD, hj] using this
set_option maxHeartbeats 4000000 in
theorem Read_arg (W : World) (A : Option Addr) (l : List Int) (c : Nat) (n : Int) (hn : n < 0 ∨ 65536 < n) : Calls Try.prog 38 #[.slice A l.length c, .int .i64 n] W fun e w' => e = .returned (.tuple #[.pointer none, .int .i64 1]) ∧ W = w' := by
  go_enter Try.func38, Try.ntmps38
  go_wp2_with (go_at_call 43; refine (New_none _ _ hn).mono ?_; rintro e w' ⟨rfl, rfl⟩)
  go_ret2
  exact ⟨rfl, rfl⟩
theorem byte_bits : ∀ v : Fin 256, byteOf ((v.1 : Int) / 2 ^ 0 % 2 == 1) ((v.1 : Int) / 2 ^ 1 % 2 == 1) ((v.1 : Int) / 2 ^ 2 % 2 == 1) ((v.1 : Int) / 2 ^ 3 % 2 == 1) ((v.1 : Int) / 2 ^ 4 % 2 == 1) ((v.1 : Int) / 2 ^ 5 % 2 == 1) ((v.1 : Int) / 2 ^ 6 % 2 == 1) ((v.1 : Int) / 2 ^ 7 % 2 == 1) = v.1 := by
  decide +kernel
theorem high_zero : ∀ (v : Fin 256) (r q : Fin 8), r.1 ≤ q.1 → (v.1 : Int) / 2 ^ r.1 = 0 → ((v.1 : Int) / 2 ^ q.1 % 2 == 1) = false := by
  decide +kernel
theorem unp_get (l : List Int) (n : Nat) (hw : ∀ v ∈ l, 0 ≤ v ∧ v < 256) (hl : l.length = (n + 7) / 8) (he : readErr l n = 0) (k q : Nat) (hk : k < l.length) (hq : q < 8) : (unp l n).getD (8 * k + q) false = (l.getD k 0 / 2 ^ q % 2 == 1) := by
  unfold unp
  by_cases h : 8 * k + q < n
  · simp only [List.getD, List.getElem?_map, List.getElem?_range h, Option.map_some, Option.getD_some]
    rw [show (8 * k + q) / 8 = k from by omega, show (8 * k + q) % 8 = q from by omega]
  · have hk2 : k = l.length - 1 := by omega
    have hz : l.getD (l.length - 1) 0 / 2 ^ (n % 8) = 0 := by
      unfold readErr at he
      have h1 : ¬ ((n : Int) < 0 ∨ 65536 < (n : Int)) := by intro h1; rw [if_pos h1] at he; cases he
      rw [if_neg h1, if_neg (by omega), if_neg (by omega)] at he
      by_cases h2 : (n : Int) % 8 ≠ 0 ∧ l.getD (l.length - 1) 0 / 2 ^ ((n : Int) % 8).toNat ≠ 0
      · rw [if_pos h2] at he; cases he
      · rw [show ((n : Int) % 8).toNat = n % 8 from by omega] at h2
        apply Classical.byContradiction
        intro h3
        exact h2 ⟨by omega, h3⟩
    rw [← hk2] at hz
    have hv := hw (l.getD k 0) (by simp [List.getD, hk])
    obtain ⟨v, hv2⟩ := Int.eq_ofNat_of_zero_le hv.1
    have := high_zero ⟨v, by omega⟩ ⟨n % 8, by omega⟩ ⟨q, hq⟩ (by simp only; omega) (by simp only; rw [← hv2]; exact hz)
    rw [hv2]
    rw [show ((v : Int) / 2 ^ q % 2 == 1) = false from this]
    simp [List.getD, h]
theorem pack_unp (l : List Int) (n : Nat) (hw : ∀ v ∈ l, 0 ≤ v ∧ v < 256) (hl : l.length = (n + 7) / 8) (he : readErr l n = 0) : pack (unp l n) = l := by
  have hn : (unp l n).length = n := by simp [unp]
  apply List.ext_getElem
  · rw [pack_len, hn, hl]
  · intro k h1 h2
    simp only [pack, List.getElem_map, List.getElem_range]
    have e := fun q hq => unp_get l n hw hl he k q h2 hq
    have e0 := e 0 (by omega)
    rw [Nat.add_zero] at e0
    unfold byteAt
    rw [e0, e 1 (by omega), e 2 (by omega), e 3 (by omega), e 4 (by omega), e 5 (by omega), e 6 (by omega), e 7 (by omega)]
    have hg : l.getD k 0 = l[k] := by simp [List.getD, h2]
    have hv := hw l[k] (List.getElem_mem h2)
    obtain ⟨v, hv2⟩ := Int.eq_ofNat_of_zero_le hv.1
    rw [hg, hv2]
    exact byte_bits ⟨v, by omega⟩
theorem copy_whole {P : Program} {w : World} {ops : Array Oper} {rest : List Oper} {o : Oper} {a : Act} {Q : Exit → Act → World → Prop} (hgd : o.guard = none) (d s : Operand) (dT sT : TypeId)
    (ho : o.op = .call { callee := .builtin .copy, args := #[d, s], argTypes := #[dT, sT] }) (elem : TypeId) (hu : P.underlying dT = some (.slice elem)) (hsz : (P.info? elem).map (·.size) = some 1)
    (dp sp : Option Addr) (dLen dCap sLen sCap : Nat) (hd : a.eval d = .slice dp dLen dCap) (hs : a.eval s = .slice sp sLen sCap)
    (g : Nat) (cur : List Value) (t : TypeId) (hg : w.heap[g]? = some (.cells cur.toArray t (0, 0))) (cs : List Value) (hn : cs.length = sLen) (hn2 : dLen = sLen) (hfit : cs.length = cur.length)
    (hpos : 0 < cs.length → dp = some ⟨g, 0, none⟩ ∧ ∃ ad, sp = some ad ∧ ∀ j v, cs[j]? = some v → w.cell? (ad.add j) = some v)
    (h1 : ∀ v ∈ cs, v.oneCell' = true) (B : Nat) (w0 : World) (hb : Below B w0 w) (hBg : B ≤ g)
    (h : ∀ w', Aside0 (w'.heap[g]? = some (.cells cs.toArray t (0, 0))) → Aside0 (∀ k, k ≠ g → w'.heap[k]? = w.heap[k]?) → Aside0 (Below B w0 w') → wpList P ops Q rest (a.put o.dst (goInt cs.length)) w') :
    wpList P ops Q (o :: rest) a w := by
  by_cases h0 : cs.length = 0
  · obtain rfl : cs = [] := List.eq_nil_of_length_eq_zero h0
    obtain rfl : cur = [] := List.eq_nil_of_length_eq_zero hfit.symm
    refine wpList_copy_nothing hgd d s dT sT ho elem hu hsz dp sp dLen dCap sLen sCap hd hs (by rw [hn2, ← hn]; rfl) ?_
    exact h w ⟨hg⟩ ⟨fun _ _ => rfl⟩ ⟨hb⟩
  · obtain ⟨rfl, ad, rfl, hsrc⟩ := hpos (by omega)
    refine wpList_copy_own hgd d s dT sT ho elem hu hsz g 0 dLen dCap ad sLen sCap hd hs cur.toArray t hg cs (by rw [hn, hn2]; exact (Nat.min_self _).symm) hsrc (by simp; omega) h1 ?_
    have e : (cur.toArray.toList.take 0 ++ (cs ++ cur.toArray.toList.drop (0 + cs.length))).toArray = cs.toArray := by simp [hfit]
    rw [e]
    exact h _ ⟨setRow_heap w g _ _ t _ hg⟩ ⟨fun k hk => setRow_other w g k _ hk⟩ ⟨below_setRow hb hBg _⟩
theorem blk_of_cell {W : World} {p : Addr} {v : Value} (h : W.cell? p = some v) : p.block < W.heap.size := by
  apply Classical.byContradiction
  intro hn
  have : W.heap[p.block]? = none := by simp; omega
  simp [World.cell?, this] at h
set_option maxHeartbeats 4000000 in
theorem Read_ok0 (W : World) (A : Option Addr) (l : List Int) (c : Nat) (n : Nat) (hn : n ≤ 65536) (hr : (Kd.int .u8).C W A l.length l) (hl : l.length = (n + 7) / 8) (h8 : n % 8 = 0) : Calls Try.prog 38 #[.slice A l.length c, .int .i64 n] W fun e w' => ∃ g b, e = .returned (.tuple #[.pointer (some ⟨g, 0, none⟩), .int .i64 0]) ∧ w'.heap[g]? = some (.cells #[.int .i64 n, .slice (some ⟨b, 0, none⟩) ((n + 7) / 8) ((n + 7) / 8)] 87 (0, 0)) ∧ w'.heap[b]? = some (.cells (l.map (Value.int .u8)).toArray 5 (0, 0)) ∧ W.heap.size ≤ g ∧ W.heap.size ≤ b ∧ Below W.heap.size W w' := by
  have hN := New_some n W hn
  have h8' : (n : Int) % 8 = 0 := by omega
  have HL := Aside0.mk hl
  have HR := Aside0.mk hr
  clear hr
  generalize hm : l.length = m at *
  have HM := Aside0.mk hm
  clear hm
  subst hl
  go_enter Try.func38, Try.ntmps38
  go_wp2_with (first | (go_at_call 43; refine (hN).mono ?_; rintro e w' ⟨g, b, rfl, hS, hg, hb, hB⟩; have hh : w'.cell? ⟨g, 1, none⟩ = some (.slice (some ⟨b, 0, none⟩) ((n + 7) / 8) ((n + 7) / 8)) := by (have := blk_cell hS.head 1; simpa using this)) | (refine copy_whole rfl (.tmp 50) (.tmp 51) 22 22 rfl 5 Try.underlying22 (by kernel_rfl) _ _ _ _ _ _ rfl rfl b ((pack (List.replicate n false)).map (Value.int .u8)) 5 hS.row (l.map (Value.int .u8)) ?c2 ?c2b ?c3 ?c4 ?c5 W.heap.size W hB hb ?_))
  case c2 => rw [List.length_map, HM.out]
  case c2b => rfl
  case c3 => rw [List.length_map, List.length_map, HM.out, pack_len, List.length_replicate]
  case c4 =>
    intro hpos
    obtain ⟨ad, hA, hc⟩ := C_cells (HM.out.symm ▸ HR.out) hpos
    refine ⟨ad, hA, fun j v hj => ?_⟩
    obtain ⟨hlt, he⟩ := List.getElem?_eq_some_iff.1 hj
    have h0 := hc j hlt
    have hbl : (ad.add j).block < W.heap.size := blk_of_cell h0
    rw [hB.cell (p := ad.add j) hbl, h0]
    simp [List.getD, hlt, he]
  case c5 => intro v hv; obtain ⟨z, _, rfl⟩ := List.mem_map.1 hv; rfl
  intro w2 h1 h2 h3
  clear hh
  go_wp2
  go_ret2
  exact ⟨g, b, rfl, (h2.out g (blk_ne hS.head hS.row (by decide))).trans (by have := hS.head; simpa using this), h1.out, hg, hb, h3.out⟩
set_option maxHeartbeats 4000000 in
theorem Read_ok1 (W : World) (A : Option Addr) (l : List Int) (c : Nat) (n : Nat) (hn : n ≤ 65536) (hr : (Kd.int .u8).C W A l.length l) (hl : l.length = (n + 7) / 8) (h8 : n % 8 ≠ 0) (hw : ∀ v ∈ l, 0 ≤ v ∧ v < 256) (hz : l.getD (l.length - 1) 0 / 2 ^ (n % 8) = 0) : Calls Try.prog 38 #[.slice A l.length c, .int .i64 n] W fun e w' => ∃ g b, e = .returned (.tuple #[.pointer (some ⟨g, 0, none⟩), .int .i64 0]) ∧ w'.heap[g]? = some (.cells #[.int .i64 n, .slice (some ⟨b, 0, none⟩) ((n + 7) / 8) ((n + 7) / 8)] 87 (0, 0)) ∧ w'.heap[b]? = some (.cells (l.map (Value.int .u8)).toArray 5 (0, 0)) ∧ W.heap.size ≤ g ∧ W.heap.size ≤ b ∧ Below W.heap.size W w' := by
  have hN := New_some n W hn
  have h8' : ¬ (n : Int) % 8 = 0 := by omega
  obtain ⟨ad, rfl, hC⟩ := C_cells hr (by omega)
  have hC := hC (l.length - 1) (by omega)
  have hbl : (ad.add (l.length - 1)).block < W.heap.size := blk_of_cell hC
  have hv := hw (l.getD (l.length - 1) 0) (by simp only [List.getD]; rw [List.getElem?_eq_getElem (by omega)]; exact List.getElem_mem _)
  clear hw
  generalize hvd : l.getD (l.length - 1) 0 = v at *
  have hz1 : (v / 2 ^ (n % 8) != 0) = false := by rw [hz]; rfl
  have hn1 : ((n : Int) % 8 != 0) = true := by rw [bne_iff_ne]; omega
  have HVD := Aside0.mk hvd
  clear hvd
  have HL := Aside0.mk hl
  have HR := Aside0.mk hr
  clear hr
  generalize hm : l.length = m at *
  have HM := Aside0.mk hm
  clear hm
  subst hl
  go_enter Try.func38, Try.ntmps38
  go_wp2_with (first | (go_at_call 43; refine (hN).mono ?_; rintro e w' ⟨g, b, rfl, hS, hg, hb, hB⟩; have hh : w'.cell? ⟨g, 1, none⟩ = some (.slice (some ⟨b, 0, none⟩) ((n + 7) / 8) ((n + 7) / 8)) := (by (have := blk_cell hS.head 1; simpa using this)); have hcl := (hB.cell (p := ad.add ((n + 7) / 8 - 1)) hbl).trans hC) | (refine copy_whole rfl (.tmp 50) (.tmp 51) 22 22 rfl 5 Try.underlying22 (by kernel_rfl) _ _ _ _ _ _ rfl rfl b ((pack (List.replicate n false)).map (Value.int .u8)) 5 hS.row (l.map (Value.int .u8)) ?c2 ?c2b ?c3 ?c4 ?c5 W.heap.size W hB hb ?_))
  case c2 => rw [List.length_map, HM.out]
  case c2b => rfl
  case c3 => rw [List.length_map, List.length_map, HM.out, pack_len, List.length_replicate]
  case c4 =>
    intro hpos
    obtain ⟨ad', hA, hc⟩ := C_cells (HM.out.symm ▸ HR.out) hpos
    obtain rfl : ad = ad' := by injection hA
    intro j v hj
    obtain ⟨hlt, he⟩ := List.getElem?_eq_some_iff.1 hj
    have h0 := hc j hlt
    have hbl : (ad.add j).block < W.heap.size := blk_of_cell h0
    rw [hB.cell (p := ad.add j) hbl, h0]
    simp [List.getD, hlt, he]
  case c5 => intro v hv; obtain ⟨z, _, rfl⟩ := List.mem_map.1 hv; rfl
  intro w2 h1 h2 h3
  clear hh
  go_wp2
  go_ret2
  exact ⟨g, b, rfl, (h2.out g (blk_ne hS.head hS.row (by decide))).trans (by have := hS.head; simpa using this), h1.out, hg, hb, h3.out⟩
set_option maxHeartbeats 4000000 in
theorem Read_bad4 (W : World) (A : Option Addr) (l : List Int) (c : Nat) (n : Nat) (hn : n ≤ 65536) (hr : (Kd.int .u8).C W A l.length l) (hl : l.length = (n + 7) / 8) (h8 : n % 8 ≠ 0) (hw : ∀ v ∈ l, 0 ≤ v ∧ v < 256) (hz : l.getD (l.length - 1) 0 / 2 ^ (n % 8) ≠ 0) : Calls Try.prog 38 #[.slice A l.length c, .int .i64 n] W fun e w' => e = .returned (.tuple #[.pointer none, .int .i64 4]) ∧ Below W.heap.size W w' := by
  have hN := New_some n W hn
  have h8' : ¬ (n : Int) % 8 = 0 := by omega
  obtain ⟨ad, rfl, hC⟩ := C_cells hr (by omega)
  have hC := hC (l.length - 1) (by omega)
  have hbl : (ad.add (l.length - 1)).block < W.heap.size := blk_of_cell hC
  have hv := hw (l.getD (l.length - 1) 0) (by simp only [List.getD]; rw [List.getElem?_eq_getElem (by omega)]; exact List.getElem_mem _)
  clear hw
  generalize hvd : l.getD (l.length - 1) 0 = v at *
  have hz1 : (v / 2 ^ (n % 8) != 0) = true := by rw [bne_iff_ne]; exact hz
  have hn1 : ((n : Int) % 8 != 0) = true := by rw [bne_iff_ne]; omega
  have HVD := Aside0.mk hvd
  clear hvd
  have HL := Aside0.mk hl
  have HR := Aside0.mk hr
  clear hr
  generalize hm : l.length = m at *
  have HM := Aside0.mk hm
  clear hm
  subst hl
  go_enter Try.func38, Try.ntmps38
  go_wp2_with (first | (go_at_call 43; refine (hN).mono ?_; rintro e w' ⟨g, b, rfl, hS, hg, hb, hB⟩; have hh : w'.cell? ⟨g, 1, none⟩ = some (.slice (some ⟨b, 0, none⟩) ((n + 7) / 8) ((n + 7) / 8)) := (by (have := blk_cell hS.head 1; simpa using this)); have hcl := (hB.cell (p := ad.add ((n + 7) / 8 - 1)) hbl).trans hC))
  go_ret2
  exact ⟨rfl, hB⟩
set_option maxHeartbeats 4000000 in
theorem Read_bad2 (W : World) (A : Option Addr) (m : Nat) (c : Nat) (n : Nat) (hn : n ≤ 65536) (hl : m < (n + 7) / 8) : Calls Try.prog 38 #[.slice A m c, .int .i64 n] W fun e w' => e = .returned (.tuple #[.pointer none, .int .i64 2]) ∧ Below W.heap.size W w' := by
  have hN := New_some n W hn
  have hl' : (m : Int) < ((n : Int) + 7) / 8 := by omega
  go_enter Try.func38, Try.ntmps38
  go_wp2_with (go_at_call 43; refine (hN).mono ?_; rintro e w' ⟨g, b, rfl, hS, hg, hb, hB⟩; have hh : w'.cell? ⟨g, 1, none⟩ = some (.slice (some ⟨b, 0, none⟩) ((n + 7) / 8) ((n + 7) / 8)) := (by (have := blk_cell hS.head 1; simpa using this)))
  go_ret2
  exact ⟨rfl, hB⟩
set_option maxHeartbeats 4000000 in
theorem Read_bad3 (W : World) (A : Option Addr) (m : Nat) (c : Nat) (n : Nat) (hn : n ≤ 65536) (hl : (n + 7) / 8 < m) : Calls Try.prog 38 #[.slice A m c, .int .i64 n] W fun e w' => e = .returned (.tuple #[.pointer none, .int .i64 3]) ∧ Below W.heap.size W w' := by
  have hN := New_some n W hn
  have hl' : ((n : Int) + 7) / 8 < (m : Int) := by omega
  go_enter Try.func38, Try.ntmps38
  go_wp2_with (go_at_call 43; refine (hN).mono ?_; rintro e w' ⟨g, b, rfl, hS, hg, hb, hB⟩; have hh : w'.cell? ⟨g, 1, none⟩ = some (.slice (some ⟨b, 0, none⟩) ((n + 7) / 8) ((n + 7) / 8)) := (by (have := blk_cell hS.head 1; simpa using this)))
  go_ret2
  exact ⟨rfl, hB⟩
/-- What Read hands back: a set that shows the bytes' marks; or none, and why. -/
def ReadPost (W : World) (l : List Int) (n : Int) (e : Ending) (w' : World) : Prop :=
  if readErr l n = 0 then ∃ g b, e = .returned (.tuple #[.pointer (some ⟨g, 0, none⟩), .int .i64 0]) ∧ IsSet w' g b (unp l n.toNat) ∧ l = pack (unp l n.toNat) ∧ 0 ≤ n ∧ n ≤ 65536 ∧ W.heap.size ≤ g ∧ W.heap.size ≤ b ∧ Below W.heap.size W w'
  else e = .returned (.tuple #[.pointer none, .int .i64 (readErr l n)]) ∧ Below W.heap.size W w'
theorem Read_any (W : World) (A : Option Addr) (l : List Int) (c : Nat) (n : Int) (hr : (Kd.int .u8).C W A l.length l) (hw : ∀ v ∈ l, 0 ≤ v ∧ v < 256) : Calls Try.prog 38 #[.slice A l.length c, .int .i64 n] W (ReadPost W l n) := by
  by_cases h1 : n < 0 ∨ 65536 < n
  · have e : readErr l n = 1 := by unfold readErr; rw [if_pos h1]
    refine (Read_arg W A l c n h1).mono ?_
    rintro e2 w' ⟨rfl, rfl⟩
    unfold ReadPost
    rw [e, if_neg (by decide)]
    exact ⟨rfl, Below.refl _ _⟩
  · obtain ⟨m, rfl⟩ := Int.eq_ofNat_of_zero_le (show 0 ≤ n by omega)
    have hm : m ≤ 65536 := by omega
    by_cases h2 : (l.length : Int) < ((m : Int) + 7) / 8
    · have e : readErr l m = 2 := by unfold readErr; rw [if_neg h1, if_pos h2]
      refine (Read_bad2 W A l.length c m hm (by omega)).mono ?_
      rintro e2 w' ⟨rfl, hB⟩
      unfold ReadPost
      rw [e, if_neg (by decide)]
      exact ⟨rfl, hB⟩
    · by_cases h3 : ((m : Int) + 7) / 8 < (l.length : Int)
      · have e : readErr l m = 3 := by unfold readErr; rw [if_neg h1, if_neg h2, if_pos h3]
        refine (Read_bad3 W A l.length c m hm (by omega)).mono ?_
        rintro e2 w' ⟨rfl, hB⟩
        unfold ReadPost
        rw [e, if_neg (by decide)]
        exact ⟨rfl, hB⟩
      · have hl : l.length = (m + 7) / 8 := by omega
        by_cases h4 : (m : Int) % 8 ≠ 0 ∧ l.getD (l.length - 1) 0 / 2 ^ ((m : Int) % 8).toNat ≠ 0
        · have e : readErr l m = 4 := by unfold readErr; rw [if_neg h1, if_neg h2, if_neg h3, if_pos h4]
          rw [show ((m : Int) % 8).toNat = m % 8 from by omega] at h4
          refine (Read_bad4 W A l c m hm hr hl (by omega) hw h4.2).mono ?_
          rintro e2 w' ⟨rfl, hB⟩
          unfold ReadPost
          rw [e, if_neg (by decide)]
          exact ⟨rfl, hB⟩
        · have e : readErr l m = 0 := by unfold readErr; rw [if_neg h1, if_neg h2, if_neg h3, if_neg h4]
          have hp := pack_unp l m hw hl e
          have hlen : (unp l m).length = m := by simp [unp]
          have fin : ∀ e2 w', (∃ g b, e2 = .returned (.tuple #[.pointer (some ⟨g, 0, none⟩), .int .i64 0]) ∧ w'.heap[g]? = some (.cells #[.int .i64 m, .slice (some ⟨b, 0, none⟩) ((m + 7) / 8) ((m + 7) / 8)] 87 (0, 0)) ∧ w'.heap[b]? = some (.cells (l.map (Value.int .u8)).toArray 5 (0, 0)) ∧ W.heap.size ≤ g ∧ W.heap.size ≤ b ∧ Below W.heap.size W w') → ReadPost W l m e2 w' := by
            rintro e2 w' ⟨g, b, rfl, hg, hb, h5, h6, hB⟩
            unfold ReadPost
            rw [e, if_pos rfl]
            exact ⟨g, b, rfl, ⟨by rw [show ((m : Int).toNat) = m from rfl, hlen]; exact hg, by rw [show ((m : Int).toNat) = m from rfl, hp]; exact hb, by rw [show ((m : Int).toNat) = m from rfl, hlen]; exact hm⟩, hp.symm, by omega, by omega, h5, h6, hB⟩
          by_cases h8 : m % 8 = 0
          · exact (Read_ok0 W A l c m hm hr hl h8).mono (fun e2 w' h => fin e2 w' h)
          · rw [show ((m : Int) % 8).toNat = m % 8 from by omega] at h4
            exact (Read_ok1 W A l c m hm hr hl h8 hw (Classical.byContradiction fun h => h4 ⟨by omega, h⟩)).mono (fun e2 w' h => fin e2 w' h)
end Go.Proofs.Ytbjnfephigcdkaa.Bits
