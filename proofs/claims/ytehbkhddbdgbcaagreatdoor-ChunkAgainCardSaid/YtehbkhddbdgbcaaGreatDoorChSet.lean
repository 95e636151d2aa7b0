/- What the methods of bitmap.Set do, at a set in memory that shows a list of marks. -/
import Derived.Test.YtehbkhddbdgbcaaGreatDoorChPop
import Derived.Laws.CopyOwn
namespace Go.Proofs.YtehbkhddbdgbcaaGreatDoor.Bits
open Go.RowKit Go.Proofs.YtehbkhddbdgbcaaGreatDoorW.PrintWords Go.Proofs.YtehbkhddbdgbcaaGreatDoorW.PrintLast Go.Proofs.YtehbkhddbdgbcaaGreatDoorW.PrintMore Go.Proofs.YtehbkhddbdgbcaaGreatDoor.PChunkBack
attribute [local go_sem] max2_int min2_int max_two min_two max_three min_three max_four min_four
set_option linter.unusedVariables false
set_option linter.unusedSimpArgs false
theorem info5 : (Tryz.prog.info? 5).map (fun i => (i.zero, i.size, i.bytes)) = some (some (.int .u8 0), 1, 1) := by kernel_rfl
/-- One byte of marks. -/
def byteOf (a b c d e f g h : Bool) : Int := (a.toInt + 2 * b.toInt + 4 * c.toInt + 8 * d.toInt + 16 * e.toInt + 32 * f.toInt + 64 * g.toInt + 128 * h.toInt)
def byteAt (x : List Bool) (k : Nat) : Int := byteOf (x.getD (8 * k) false) (x.getD (8 * k + 1) false) (x.getD (8 * k + 2) false) (x.getD (8 * k + 3) false) (x.getD (8 * k + 4) false) (x.getD (8 * k + 5) false) (x.getD (8 * k + 6) false) (x.getD (8 * k + 7) false)
def pack (x : List Bool) : List Int := (List.range ((x.length + 7) / 8)).map (byteAt x)
theorem pack_len (x : List Bool) : (pack x).length = (x.length + 7) / 8 := by simp [pack]
/-- A set at block g, its bytes at block b, that shows the marks x. -/
structure IsSet (W : World) (g b : Nat) (x : List Bool) : Prop where
  head : W.heap[g]? = some (.cells #[.int .i64 x.length, .slice (some ⟨b, 0, none⟩) ((x.length + 7) / 8) ((x.length + 7) / 8)] 90 (0, 0))
  row : W.heap[b]? = some (.cells ((pack x).map (Value.int .u8)).toArray 5 (0, 0))
  le : x.length ≤ 65536
theorem IsSet.below {W W' : World} {g b : Nat} {x : List Bool} (h : IsSet W g b x) (hb : Below W.heap.size W W') : IsSet W' g b x :=
  ⟨blk_below h.head hb, blk_below h.row hb, h.le⟩
set_option maxHeartbeats 4000000 in
theorem size_any (n : Int) (w : World) (h0 : 0 ≤ n) (h1 : n ≤ 65536) : Calls Tryz.prog 63 #[.int .i64 n] w fun e w' => e = .returned (.int .i64 ((n + 7) / 8)) ∧ w = w' := by
  go_enter Tryz.func63, Tryz.ntmps63
  go_wp2
  go_ret
  exact ⟨rfl, rfl⟩
set_option maxHeartbeats 4000000 in
theorem New_none (n : Int) (w : World) (h : n < 0 ∨ 65536 < n) : Calls Tryz.prog 32 #[.int .i64 n] w fun e w' => e = .returned (.pointer none) ∧ w = w' := by
  rcases h with h | h
  · go_enter Tryz.func32, Tryz.ntmps32
    go_wp2
    go_ret
    exact ⟨rfl, rfl⟩
  · have h' : ¬ n < 0 := by omega
    go_enter Tryz.func32, Tryz.ntmps32
    go_wp2
    go_ret
    exact ⟨rfl, rfl⟩
theorem made_zeros (n : Nat) : madeCells #[.int .u8 0] n = ((List.replicate n (0 : Int)).map (Value.int .u8)).toArray := by
  unfold madeCells
  apply Array.ext
  · simp
  · intro i h1 h2
    simp [Nat.mod_one]
theorem pack_false (n : Nat) : pack (List.replicate n false) = List.replicate ((n + 7) / 8) 0 := by
  unfold pack
  rw [List.length_replicate]
  apply List.ext_getElem
  · simp
  · intro i h1 h2
    have e : ∀ j, (List.replicate n false).getD j false = false := by intro j; simp [List.getD, List.getElem?_replicate]; split <;> rfl
    simp only [List.getElem_map, List.getElem_range, List.getElem_replicate, byteAt, e]
    rfl
theorem IsSet.made (w : World) (n : Nat) (h : n ≤ 65536) : IsSet ((w.alloc (.cells (madeCells #[.int .u8 0] ((n + 7) / 8)) 5)).alloc (.cells #[.int .i64 n, .slice (some ⟨w.heap.size, 0, none⟩) ((n + 7) / 8) ((n + 7) / 8)] 90)) (w.heap.size + 1) w.heap.size (List.replicate n false) := by
  refine ⟨?_, ?_, by simpa using h⟩
  · have := heap_alloc_new (w.alloc (.cells (madeCells #[.int .u8 0] ((n + 7) / 8)) 5)) (.cells #[.int .i64 n, .slice (some ⟨w.heap.size, 0, none⟩) ((n + 7) / 8) ((n + 7) / 8)] 90)
    rw [World.size_alloc] at this
    simpa using this
  · have := blk_below (heap_alloc_new w (.cells (madeCells #[.int .u8 0] ((n + 7) / 8)) 5)) (below_alloc (Below.refl _ _) (.cells #[.int .i64 n, .slice (some ⟨w.heap.size, 0, none⟩) ((n + 7) / 8) ((n + 7) / 8)] 90))
    rw [pack_false, ← made_zeros]
    exact this
set_option maxHeartbeats 4000000 in
theorem New_some (n : Nat) (w : World) (h : n ≤ 65536) : Calls Tryz.prog 32 #[.int .i64 n] w fun e w' => ∃ g b, e = .returned (.pointer (some ⟨g, 0, none⟩)) ∧ IsSet w' g b (List.replicate n false) ∧ w.heap.size ≤ g ∧ w.heap.size ≤ b ∧ Below w.heap.size w w' := by
  have h0 : ¬ (n : Int) < 0 := by omega
  have h1 : ¬ 65536 < (n : Int) := by omega
  have hmk := print_make_int (P := Tryz.prog) 25 5 (.int .u8 0) 1 Tryz.underlying25 info5 rfl (by decide) (((n : Int) + 7) / 8) (by omega) (by omega)
  rw [show (((n : Int) + 7) / 8).toNat = (n + 7) / 8 from by omega] at hmk
  go_enter Tryz.func32, Tryz.ntmps32
  go_wp2_with (go_at_call 63; refine (size_any _ _ (by omega) (by omega)).mono ?_; rintro e w' ⟨rfl, rfl⟩)
  go_ret
  exact ⟨_, w.heap.size, rfl, IsSet.made w n h, by simp, Nat.le_refl _, below_alloc (below_alloc (Below.refl _ _) _) _⟩
set_option maxHeartbeats 4000000 in
theorem Len_any (W : World) (g b : Nat) (x : List Bool) (h : IsSet W g b x) : Calls Tryz.prog 36 #[.pointer (some ⟨g, 0, none⟩)] W fun e w' => e = .returned (.int .i64 x.length) ∧ W = w' := by
  have e1 : ∀ w, (binOp BinOp.eql 47 (.pointer (some ⟨g, 0, none⟩)) (.pointer none)).run Tryz.prog w = .ok (.bool false) w := fun w => by kernel_rfl
  have hc := blk_cell h.head 0
  simp at hc
  go_enter Tryz.func36, Tryz.ntmps36
  go_wp2
  go_ret
  exact ⟨rfl, rfl⟩
set_option maxHeartbeats 4000000 in
theorem in_any (W : World) (g b : Nat) (x : List Bool) (i : Int) (h : IsSet W g b x) : Calls Tryz.prog 54 #[.pointer (some ⟨g, 0, none⟩), .int .i64 i] W fun e w' => e = .returned (.bool (decide (0 ≤ i ∧ i < x.length))) ∧ W = w' := by
  by_cases h0 : 0 ≤ i
  · by_cases h1 : i < x.length
    · rw [decide_eq_true (And.intro h0 h1)]
      go_enter Tryz.func54, Tryz.ntmps54
      go_wp2_with (go_at_call 36; refine (Len_any _ _ _ _ h).mono ?_; rintro e w' ⟨rfl, rfl⟩)
      go_ret
      exact ⟨rfl, rfl⟩
    · rw [decide_eq_false (fun e => h1 e.2)]
      go_enter Tryz.func54, Tryz.ntmps54
      go_wp2_with (go_at_call 36; refine (Len_any _ _ _ _ h).mono ?_; rintro e w' ⟨rfl, rfl⟩)
      go_ret
      exact ⟨by simp; omega, rfl⟩
  · rw [decide_eq_false (fun e => h0 e.1)]
    have h0' : i < 0 := by omega
    go_enter Tryz.func54, Tryz.ntmps54
    go_wp2
    go_ret
    exact ⟨rfl, rfl⟩
theorem IsSet.cell {W : World} {g b : Nat} {x : List Bool} (h : IsSet W g b x) {k : Nat} (hk : k < (x.length + 7) / 8) : W.cell? ⟨b, k, none⟩ = some (.int .u8 (byteAt x k)) := by
  rw [blk_cell h.row k]
  simp [pack, hk]
theorem bit_of : ∀ (r : Fin 8) (a b c d e f g h : Bool), (bits BinOp.and IntKind.u8 (byteOf a b c d e f g h / 2 ^ r.1) 1 == 1) = [a, b, c, d, e, f, g, h].getD r.1 false := by
  decide +kernel
theorem or_of : ∀ (r : Fin 8) (a b c d e f g h : Bool), bits BinOp.or IntKind.u8 (byteOf a b c d e f g h) (2 ^ r.1 % 256) = byteOf (a || r.1 == 0) (b || r.1 == 1) (c || r.1 == 2) (d || r.1 == 3) (e || r.1 == 4) (f || r.1 == 5) (g || r.1 == 6) (h || r.1 == 7) := by
  decide +kernel
theorem bit_at (x : List Bool) (i : Nat) : (bits BinOp.and IntKind.u8 (byteAt x (i / 8) / 2 ^ (i % 8)) 1 == 1) = x.getD i false := by
  have h := bit_of ⟨i % 8, by omega⟩ (x.getD (8 * (i / 8)) false) (x.getD (8 * (i / 8) + 1) false) (x.getD (8 * (i / 8) + 2) false) (x.getD (8 * (i / 8) + 3) false) (x.getD (8 * (i / 8) + 4) false) (x.getD (8 * (i / 8) + 5) false) (x.getD (8 * (i / 8) + 6) false) (x.getD (8 * (i / 8) + 7) false)
  refine h.trans ?_
  have hr : i % 8 < 8 := by omega
  have e : i = 8 * (i / 8) + i % 8 := by omega
  dsimp only
  generalize i % 8 = r at hr e ⊢
  rw [show x.getD i false = x.getD (8 * (i / 8) + r) false from by rw [← e]]
  generalize 8 * (i / 8) = q
  match r, hr with
  | 0, _ => rfl
  | 1, _ => rfl
  | 2, _ => rfl
  | 3, _ => rfl
  | 4, _ => rfl
  | 5, _ => rfl
  | 6, _ => rfl
  | 7, _ => rfl
theorem getD_set (x : List Bool) (i j : Nat) (hi : i < x.length) : (x.set i true).getD j false = (x.getD j false || i == j) := by
  by_cases e : i = j
  · subst e; simp [List.getD, hi]
  · simp [List.getD, List.getElem?_set, e]
theorem byte_set (x : List Bool) (i : Nat) (hi : i < x.length) : bits BinOp.or IntKind.u8 (byteAt x (i / 8)) (2 ^ (i % 8) % 256) = byteAt (x.set i true) (i / 8) := by
  have h := or_of ⟨i % 8, by omega⟩ (x.getD (8 * (i / 8)) false) (x.getD (8 * (i / 8) + 1) false) (x.getD (8 * (i / 8) + 2) false) (x.getD (8 * (i / 8) + 3) false) (x.getD (8 * (i / 8) + 4) false) (x.getD (8 * (i / 8) + 5) false) (x.getD (8 * (i / 8) + 6) false) (x.getD (8 * (i / 8) + 7) false)
  refine h.trans ?_
  unfold byteAt
  have e : ∀ r, (i % 8 == r) = (i == 8 * (i / 8) + r) := by intro r; rw [Bool.eq_iff_iff]; simp; omega
  simp only [getD_set x i _ hi, e]
  rw [show (i == 8 * (i / 8) + 0) = (i == 8 * (i / 8)) from by rw [Nat.add_zero]]
theorem byte_same (x : List Bool) (i k : Nat) (hi : i < x.length) (hk : k ≠ i / 8) : byteAt (x.set i true) k = byteAt x k := by
  unfold byteAt
  have e : ∀ r, r < 8 → (i == 8 * k + r) = false := by intro r hr; rw [beq_eq_false_iff_ne]; omega
  have e0 := e 0 (by omega)
  rw [Nat.add_zero] at e0
  simp only [getD_set x i _ hi, e0, e 1 (by omega), e 2 (by omega), e 3 (by omega), e 4 (by omega), e 5 (by omega), e 6 (by omega), e 7 (by omega), Bool.or_false]
theorem pack_set (x : List Bool) (i : Nat) (hi : i < x.length) : pack (x.set i true) = (pack x).set (i / 8) (byteAt (x.set i true) (i / 8)) := by
  unfold pack
  apply List.ext_getElem
  · simp
  · intro k h1 h2
    rw [List.getElem_set]
    by_cases e : i / 8 = k
    · subst e; simp
    · simp [e, byte_same x i k hi (fun h => e h.symm)]
theorem IsSet.mark {W : World} {g b : Nat} {x : List Bool} (h : IsSet W g b x) {i : Nat} (hi : i < x.length) : IsSet (W.setCell ⟨b, i / 8, none⟩ (.int .u8 (byteAt (x.set i true) (i / 8)))) g b (x.set i true) := by
  refine ⟨?_, ?_, by simpa using h.le⟩
  · rw [List.length_set]
    exact blk_far h.head (p := ⟨b, i / 8, none⟩) (blk_ne h.head h.row (by decide)) _
  · have := blk_set h.row (i / 8) (.int .u8 (byteAt (x.set i true) (i / 8)))
    rw [this, pack_set x i hi, List.map_set]
    simp
set_option maxHeartbeats 4000000 in
theorem Has_in (W : World) (g b : Nat) (x : List Bool) (i : Nat) (h : IsSet W g b x) (hi : i < x.length) : Calls Tryz.prog 26 #[.pointer (some ⟨g, 0, none⟩), .int .i64 i] W fun e w' => e = .returned (.bool (x.getD i false)) ∧ W = w' := by
  have hh := blk_cell h.head 1
  simp at hh
  have hle := h.le
  have hc := h.cell (k := i / 8) (by omega)
  have hf := blk_frozen h.row (i / 8)
  have d0 : decide (0 ≤ (i : Int) ∧ (i : Int) < x.length) = true := decide_eq_true (by omega)
  go_enter Tryz.func26, Tryz.ntmps26
  go_wp2_with (go_at_call 54; refine (in_any _ _ _ _ _ h).mono ?_; rintro e w' ⟨he, rfl⟩; rw [d0] at he; subst he)
  go_ret
  exact ⟨by rw [← bit_at x i]; rfl, rfl⟩
set_option maxHeartbeats 4000000 in
theorem Has_out (W : World) (g b : Nat) (x : List Bool) (i : Int) (h : IsSet W g b x) (hi : ¬ (0 ≤ i ∧ i < x.length)) : Calls Tryz.prog 26 #[.pointer (some ⟨g, 0, none⟩), .int .i64 i] W fun e w' => e = .returned (.bool false) ∧ W = w' := by
  have d0 : decide (0 ≤ i ∧ i < x.length) = false := decide_eq_false hi
  go_enter Tryz.func26, Tryz.ntmps26
  go_wp2_with (go_at_call 54; refine (in_any _ _ _ _ _ h).mono ?_; rintro e w' ⟨he, rfl⟩; rw [d0] at he; subst he)
  go_ret
  exact ⟨rfl, rfl⟩
set_option maxHeartbeats 4000000 in
theorem Mark_out (W : World) (g b : Nat) (x : List Bool) (i : Int) (h : IsSet W g b x) (hi : ¬ (0 ≤ i ∧ i < x.length)) : Calls Tryz.prog 55 #[.pointer (some ⟨g, 0, none⟩), .int .i64 i] W fun e w' => e = .returned (.bool false) ∧ W = w' := by
  have d0 : decide (0 ≤ i ∧ i < x.length) = false := decide_eq_false hi
  go_enter Tryz.func55, Tryz.ntmps55
  go_wp2_with (go_at_call 54; refine (in_any _ _ _ _ _ h).mono ?_; rintro e w' ⟨he, rfl⟩; rw [d0] at he; subst he)
  go_ret
  exact ⟨rfl, rfl⟩
set_option maxHeartbeats 4000000 in
theorem Mark_in (W : World) (g b : Nat) (x : List Bool) (i : Nat) (h : IsSet W g b x) (hi : i < x.length) (hx : x.getD i false = false) : Calls Tryz.prog 55 #[.pointer (some ⟨g, 0, none⟩), .int .i64 i] W fun e w' => e = .returned (.bool true) ∧ IsSet w' g b (x.set i true) ∧ (∀ k, k ≠ b → w'.heap[k]? = W.heap[k]?) ∧ w'.heap.size = W.heap.size ∧ ∀ B w0, B ≤ b → Below B w0 W → Below B w0 w' := by
  have hh := blk_cell h.head 1
  simp at hh
  have hle := h.le
  have hc := h.cell (k := i / 8) (by omega)
  have hf := blk_frozen h.row (i / 8)
  have d0 : decide (0 ≤ (i : Int) ∧ (i : Int) < x.length) = true := decide_eq_true (by omega)
  have HX := Aside0.mk hx
  clear hx
  have H := h
  go_enter Tryz.func55, Tryz.ntmps55
  go_wp2_with (first | (go_at_call 54; refine (in_any _ _ _ _ _ H).mono ?_; rintro e w' ⟨he, rfl⟩; rw [d0] at he; subst he) | (go_at_call 26; refine (Has_in _ _ _ _ _ H hi).mono ?_; rintro e w' ⟨he, rfl⟩; rw [HX.out] at he; subst he))
  go_ret
  rw [byte_set x i hi]
  exact ⟨rfl, h.mark hi, fun k hk => Below.heap_setCell W ⟨b, i / 8, none⟩ _ k hk, by simp, fun B w0 hb hB => hB.setCell (p := ⟨b, i / 8, none⟩) hb _⟩
set_option maxHeartbeats 4000000 in
theorem Mark_again (W : World) (g b : Nat) (x : List Bool) (i : Nat) (h : IsSet W g b x) (hi : i < x.length) (hx : x.getD i false = true) : Calls Tryz.prog 55 #[.pointer (some ⟨g, 0, none⟩), .int .i64 i] W fun e w' => e = .returned (.bool false) ∧ W = w' := by
  have HX := Aside0.mk hx
  clear hx
  have d0 : decide (0 ≤ (i : Int) ∧ (i : Int) < x.length) = true := decide_eq_true (by omega)
  go_enter Tryz.func55, Tryz.ntmps55
  go_wp2_with (first | (go_at_call 54; refine (in_any _ _ _ _ _ h).mono ?_; rintro e w' ⟨he, rfl⟩; rw [d0] at he; subst he) | (go_at_call 26; refine (Has_in _ _ _ _ _ h hi).mono ?_; rintro e w' ⟨he, rfl⟩; rw [HX.out] at he; subst he))
  go_ret
  exact ⟨rfl, rfl⟩
/-- Is a place there, and marked? -/
def has (x : List Bool) (i : Int) : Bool := decide (0 ≤ i ∧ i < x.length) && x.getD i.toNat false
/-- Is a place there, and not marked? -/
def free (x : List Bool) (i : Int) : Bool := decide (0 ≤ i ∧ i < x.length) && !x.getD i.toNat false
/-- The marks with one more. -/
def mark (x : List Bool) (i : Int) : List Bool := if 0 ≤ i ∧ i < x.length then x.set i.toNat true else x
theorem Has_any (W : World) (g b : Nat) (x : List Bool) (i : Int) (h : IsSet W g b x) : Calls Tryz.prog 26 #[.pointer (some ⟨g, 0, none⟩), .int .i64 i] W fun e w' => e = .returned (.bool (has x i)) ∧ W = w' := by
  unfold has
  by_cases hi : 0 ≤ i ∧ i < x.length
  · obtain ⟨n, rfl⟩ := Int.eq_ofNat_of_zero_le hi.1
    rw [decide_eq_true hi, Bool.true_and]
    exact Has_in W g b x n h (by omega)
  · rw [decide_eq_false hi, Bool.false_and]
    exact Has_out W g b x i h hi
theorem Mark_any (W : World) (g b : Nat) (x : List Bool) (i : Int) (h : IsSet W g b x) : Calls Tryz.prog 55 #[.pointer (some ⟨g, 0, none⟩), .int .i64 i] W fun e w' => e = .returned (.bool (free x i)) ∧ IsSet w' g b (mark x i) ∧ (∀ k, k ≠ b → w'.heap[k]? = W.heap[k]?) ∧ w'.heap.size = W.heap.size ∧ ∀ B w0, B ≤ b → Below B w0 W → Below B w0 w' := by
  unfold free mark
  by_cases hi : 0 ≤ i ∧ i < x.length
  · obtain ⟨n, rfl⟩ := Int.eq_ofNat_of_zero_le hi.1
    rw [decide_eq_true hi, Bool.true_and, if_pos hi]
    have hn : n < x.length := by omega
    rw [show (n : Int).toNat = n from rfl]
    cases hx : x.getD n false
    · exact Mark_in W g b x n h hn hx
    · refine (Mark_again W g b x n h hn hx).mono ?_
      rintro e w' ⟨rfl, rfl⟩
      have e : x.set n true = x := by
        apply List.ext_getElem (by simp)
        intro j h1 h2
        rw [List.getElem_set]
        split
        · rename_i e; subst e; simpa [List.getD, hn] using hx.symm
        · rfl
      rw [e]
      exact ⟨rfl, h, fun _ _ => rfl, rfl, fun _ _ _ hB => hB⟩
  · rw [decide_eq_false hi, Bool.false_and, if_neg hi]
    refine (Mark_out W g b x i h hi).mono ?_
    rintro e w' ⟨rfl, rfl⟩
    exact ⟨rfl, h, fun _ _ => rfl, rfl, fun _ _ _ hB => hB⟩
/-- How many of the first i places are marked. -/
def cnt (x : List Bool) (i : Nat) : Nat := ((x.take i).filter id).length
theorem cnt_le (x : List Bool) (i : Nat) : cnt x i ≤ i := by
  unfold cnt
  exact Nat.le_trans (List.length_filter_le _ _) (by simp; omega)
theorem cnt_succ (x : List Bool) (i : Nat) : (cnt x (i + 1) : Int) = cnt x i + (x.getD i false).toInt := by
  unfold cnt
  by_cases h : i < x.length
  · rw [List.take_succ_eq_append_getElem h, List.filter_append]
    cases hx : x[i] <;> simp [List.getD, h, hx]
  · have e : x.getD i false = false := by simp [List.getD, h]
    rw [List.take_of_length_le (by omega), List.take_of_length_le (by omega), e]
    simp
theorem pop_of : ∀ (a b c d e f g h : Bool), bits_OnesCount8.f (byteOf a b c d e f g h) = some (a.toInt + b.toInt + c.toInt + d.toInt + e.toInt + f.toInt + g.toInt + h.toInt) := by
  decide +kernel
theorem shl_of : ∀ (r : Fin 8) (a b c d e f g h : Bool), bits_OnesCount8.f (byteOf a b c d e f g h * 2 ^ (8 - r.1) % 256) = some (([a, b, c, d, e, f, g, h].take r.1).map Bool.toInt).sum := by
  decide +kernel
theorem pop_at (x : List Bool) (k : Nat) : bits_OnesCount8.f (byteAt x k) = some ((cnt x (8 * k + 8) : Int) - cnt x (8 * k)) := by
  unfold byteAt
  rw [pop_of]
  have e := fun j => cnt_succ x (8 * k + j)
  have e0 := e 0; have e1 := e 1; have e2 := e 2; have e3 := e 3; have e4 := e 4; have e5 := e 5; have e6 := e 6; have e7 := e 7
  simp only [Nat.add_zero, Nat.add_assoc, Nat.reduceAdd] at e0 e1 e2 e3 e4 e5 e6 e7
  congr 1
  omega
theorem shl_at (x : List Bool) (k r : Nat) (hr : r < 8) : bits_OnesCount8.f (byteAt x k * 2 ^ (8 - r) % 256) = some ((cnt x (8 * k + r) : Int) - cnt x (8 * k)) := by
  unfold byteAt
  have h := shl_of ⟨r, hr⟩ (x.getD (8 * k) false) (x.getD (8 * k + 1) false) (x.getD (8 * k + 2) false) (x.getD (8 * k + 3) false) (x.getD (8 * k + 4) false) (x.getD (8 * k + 5) false) (x.getD (8 * k + 6) false) (x.getD (8 * k + 7) false)
  refine h.trans ?_
  have e := fun j => cnt_succ x (8 * k + j)
  have e0 := e 0; have e1 := e 1; have e2 := e 2; have e3 := e 3; have e4 := e 4; have e5 := e 5; have e6 := e 6
  simp only [Nat.add_zero, Nat.add_assoc, Nat.reduceAdd] at e0 e1 e2 e3 e4 e5 e6
  congr 1
  match r, hr with
  | 0, _ => simp only [List.take_succ_cons, List.take_zero, List.map_cons, List.map_nil, List.sum_cons, List.sum_nil, Nat.add_zero]; omega
  | 1, _ => simp only [List.take_succ_cons, List.take_zero, List.map_cons, List.map_nil, List.sum_cons, List.sum_nil]; omega
  | 2, _ => simp only [List.take_succ_cons, List.take_zero, List.map_cons, List.map_nil, List.sum_cons, List.sum_nil]; omega
  | 3, _ => simp only [List.take_succ_cons, List.take_zero, List.map_cons, List.map_nil, List.sum_cons, List.sum_nil]; omega
  | 4, _ => simp only [List.take_succ_cons, List.take_zero, List.map_cons, List.map_nil, List.sum_cons, List.sum_nil]; omega
  | 5, _ => simp only [List.take_succ_cons, List.take_zero, List.map_cons, List.map_nil, List.sum_cons, List.sum_nil]; omega
  | 6, _ => simp only [List.take_succ_cons, List.take_zero, List.map_cons, List.map_nil, List.sum_cons, List.sum_nil]; omega
  | 7, _ => simp only [List.take_succ_cons, List.take_zero, List.map_cons, List.map_nil, List.sum_cons, List.sum_nil]; omega
/-- A place, held within the set. -/
def clamp (x : List Bool) (i : Int) : Nat := (max 0 (min i x.length)).toNat
theorem ret_int {k : IntKind} {a b : Int} (h : a = b) : Ending.returned (.int k a) = .returned (.int k b) := by rw [h]
set_option maxHeartbeats 4000000 in
theorem Rank_in (W : World) (g b : Nat) (x : List Bool) (c : Nat) (h : IsSet W g b x) (hc : c ≤ x.length) (hp : 0 < c) : Calls Tryz.prog 25 #[.pointer (some ⟨g, 0, none⟩), .int .i64 c] W fun e w' => e = .returned (.int .i64 (cnt x c)) ∧ Drawn0 W w' := by
  have hle := h.le
  have hc0 : (c : Int) ≤ x.length := by omega
  have hp0 : (0 : Int) < c := by omega
  go_enter Tryz.func25, Tryz.ntmps25
  go_wp2_with (go_at_call 36; refine (Len_any _ _ _ _ h).mono ?_; rintro e w' ⟨rfl, rfl⟩)
  go_loopw [5, 14] (fun n k wr => ∃ j : Nat, j ≤ c / 8 ∧ k = .int .i64 j ∧ n = .int .i64 (cnt x (8 * j)) ∧ Drawn0 W wr) (fun _ k _ => c / 8 - (intOf k).toNat)
  case atStart => exact ⟨0, Nat.zero_le _, rfl, rfl, Drawn0.refl _⟩
  case round =>
    obtain ⟨j, hj, rfl, rfl, ⟨m, rfl⟩⟩ := hrel
    have hh := blk_cell h.head 1
    simp at hh
    have hb := cnt_le x (8 * j)
    by_cases hlt : j < c / 8
    · have hc := h.cell (k := j) (by omega)
      have hf := blk_frozen h.row j
      have hp := pop_at x j
      have hb2 := cnt_le x (8 * j + 8)
      have hj2 : (j : Int) < (c : Int) / 8 := by omega
      go_wp2_with (go_at_call 53; refine (bits_OnesCount8.calls _ _ _ hp).mono ?_; rintro e w' ⟨rfl, ⟨m, rfl⟩⟩)
      refine ⟨⟨j + 1, by omega, rfl, by rw [show 8 * (j + 1) = 8 * j + 8 from by omega]; exact congrArg (Value.int .i64) (by omega), Drawn0.mk ⟨_, rfl⟩⟩, by simp [intOf]; omega⟩
    · obtain rfl : j = c / 8 := by omega
      have hp := shl_at x (c / 8) (c % 8) (by omega)
      have hb2 := cnt_le x c
      rw [show 8 * (c / 8) + c % 8 = c from by omega] at hp
      by_cases hm : c % 8 = 0
      · have hm' : (c : Int) % 8 = 0 := by omega
        go_wp2
        go_ret
        exact ⟨by rw [show cnt x c = cnt x (8 * (c / 8)) from by rw [show 8 * (c / 8) = c from by omega]]; rfl, Drawn0.mk ⟨_, rfl⟩⟩
      · have hm' : ¬ (c : Int) % 8 = 0 := by omega
        have hc := h.cell (k := c / 8) (by omega)
        have hf := blk_frozen h.row (c / 8)
        go_wp2_with (go_at_call 53; refine (bits_OnesCount8.calls _ _ _ hp).mono ?_; rintro e w' ⟨rfl, ⟨m, rfl⟩⟩)
        go_ret
        exact ⟨ret_int (by omega), Drawn0.mk ⟨_, rfl⟩⟩
set_option maxHeartbeats 4000000 in
theorem Rank_over (W : World) (g b : Nat) (x : List Bool) (i : Int) (h : IsSet W g b x) (hi : (x.length : Int) < i) (hp : 0 < x.length) : Calls Tryz.prog 25 #[.pointer (some ⟨g, 0, none⟩), .int .i64 i] W fun e w' => e = .returned (.int .i64 (cnt x x.length)) ∧ Drawn0 W w' := by
  have hle := h.le
  have hp0 : (0 : Int) < x.length := by omega
  go_enter Tryz.func25, Tryz.ntmps25
  go_wp2_with (go_at_call 36; refine (Len_any _ _ _ _ h).mono ?_; rintro e w' ⟨rfl, rfl⟩)
  go_loopw [5, 14] (fun n k wr => ∃ j : Nat, j ≤ x.length / 8 ∧ k = .int .i64 j ∧ n = .int .i64 (cnt x (8 * j)) ∧ Drawn0 W wr) (fun _ k _ => x.length / 8 - (intOf k).toNat)
  case atStart => exact ⟨0, Nat.zero_le _, rfl, rfl, Drawn0.refl _⟩
  case round =>
    obtain ⟨j, hj, rfl, rfl, ⟨m, rfl⟩⟩ := hrel
    have hh := blk_cell h.head 1
    simp at hh
    have hb := cnt_le x (8 * j)
    by_cases hlt : j < x.length / 8
    · have hc := h.cell (k := j) (by omega)
      have hf := blk_frozen h.row j
      have hp := pop_at x j
      have hb2 := cnt_le x (8 * j + 8)
      have hj2 : (j : Int) < (x.length : Int) / 8 := by omega
      go_wp2_with (go_at_call 53; refine (bits_OnesCount8.calls _ _ _ hp).mono ?_; rintro e w' ⟨rfl, ⟨m, rfl⟩⟩)
      refine ⟨⟨j + 1, by omega, rfl, by rw [show 8 * (j + 1) = 8 * j + 8 from by omega]; exact congrArg (Value.int .i64) (by omega), Drawn0.mk ⟨_, rfl⟩⟩, by simp [intOf]; omega⟩
    · obtain rfl : j = x.length / 8 := by omega
      have hp := shl_at x (x.length / 8) (x.length % 8) (by omega)
      have hb2 := cnt_le x x.length
      rw [show 8 * (x.length / 8) + x.length % 8 = x.length from by omega] at hp
      by_cases hm : x.length % 8 = 0
      · have hm' : (x.length : Int) % 8 = 0 := by omega
        go_wp2
        go_ret
        exact ⟨by rw [show cnt x x.length = cnt x (8 * (x.length / 8)) from by rw [show 8 * (x.length / 8) = x.length from by omega]]; rfl, Drawn0.mk ⟨_, rfl⟩⟩
      · have hm' : ¬ (x.length : Int) % 8 = 0 := by omega
        have hc := h.cell (k := x.length / 8) (by omega)
        have hf := blk_frozen h.row (x.length / 8)
        go_wp2_with (go_at_call 53; refine (bits_OnesCount8.calls _ _ _ hp).mono ?_; rintro e w' ⟨rfl, ⟨m, rfl⟩⟩)
        go_ret
        exact ⟨ret_int (by omega), Drawn0.mk ⟨_, rfl⟩⟩
set_option maxHeartbeats 4000000 in
theorem Rank_low (W : World) (g b : Nat) (x : List Bool) (i : Int) (h : IsSet W g b x) (hi : i ≤ 0) : Calls Tryz.prog 25 #[.pointer (some ⟨g, 0, none⟩), .int .i64 i] W fun e w' => e = .returned (.int .i64 0) ∧ Drawn0 W w' := by
  have hle := h.le
  go_enter Tryz.func25, Tryz.ntmps25
  go_wp2_with (go_at_call 36; refine (Len_any _ _ _ _ h).mono ?_; rintro e w' ⟨rfl, rfl⟩)
  all_goals
    refine wp_loop_rounds 1 ?_
    rw [rounds_succ]
    go_wp2
    go_ret
    exact ⟨rfl, Drawn0.refl _⟩
set_option maxHeartbeats 4000000 in
theorem Rank_empty (W : World) (g b : Nat) (i : Int) (h : IsSet W g b []) (hi : 0 < i) : Calls Tryz.prog 25 #[.pointer (some ⟨g, 0, none⟩), .int .i64 i] W fun e w' => e = .returned (.int .i64 0) ∧ Drawn0 W w' := by
  go_enter Tryz.func25, Tryz.ntmps25
  go_wp2_with (go_at_call 36; refine (Len_any _ _ _ _ h).mono ?_; rintro e w' ⟨rfl, rfl⟩)
  all_goals
    refine wp_loop_rounds 1 ?_
    rw [rounds_succ]
    go_wp2
    go_ret
    exact ⟨rfl, Drawn0.refl _⟩
theorem Rank_any (W : World) (g b : Nat) (x : List Bool) (i : Int) (h : IsSet W g b x) : Calls Tryz.prog 25 #[.pointer (some ⟨g, 0, none⟩), .int .i64 i] W fun e w' => e = .returned (.int .i64 (cnt x (clamp x i))) ∧ Drawn0 W w' := by
  by_cases h0 : i ≤ 0
  · rw [show clamp x i = 0 from by unfold clamp; omega]
    exact Rank_low W g b x i h h0
  · by_cases h1 : i ≤ x.length
    · obtain ⟨c, rfl⟩ := Int.eq_ofNat_of_zero_le (show 0 ≤ i by omega)
      rw [show clamp x c = c from by unfold clamp; omega]
      exact Rank_in W g b x c h (by omega) (by omega)
    · rw [show clamp x i = x.length from by unfold clamp; omega]
      by_cases h2 : x.length = 0
      · obtain rfl : x = [] := List.eq_nil_of_length_eq_zero h2
        exact Rank_empty W g b i h (by omega)
      · exact Rank_over W g b x i h (by omega) (by omega)
theorem IsSet.drawn {W W' : World} {g b : Nat} {x : List Bool} (h : IsSet W g b x) (hd : Drawn0 W W') : IsSet W' g b x := h.below hd.below
theorem cnt_all (x : List Bool) : cnt x (clamp x x.length) = cnt x x.length := by rw [show clamp x x.length = x.length from by unfold clamp; omega]
set_option maxHeartbeats 4000000 in
theorem Count_any (W : World) (g b : Nat) (x : List Bool) (h : IsSet W g b x) : Calls Tryz.prog 20 #[.pointer (some ⟨g, 0, none⟩)] W fun e w' => e = .returned (.int .i64 (cnt x x.length)) ∧ Drawn0 W w' := by
  have hR := Rank_any W g b x x.length h
  rw [cnt_all] at hR
  go_enter Tryz.func20, Tryz.ntmps20
  go_wp2_with (first | (go_at_call 36; refine (Len_any _ _ _ _ h).mono ?_; rintro e w' ⟨rfl, rfl⟩) | (go_at_call 25; refine hR.mono ?_; rintro e w' ⟨rfl, ⟨m, rfl⟩⟩))
  go_ret
  exact ⟨rfl, Drawn0.mk ⟨_, rfl⟩⟩
set_option maxRecDepth 100000 in
set_option maxHeartbeats 4000000 in
theorem Bytes_any (W : World) (g b : Nat) (x : List Bool) (h : IsSet W g b x) : Calls Tryz.prog 29 #[.pointer (some ⟨g, 0, none⟩)] W fun e w' => ∃ c, e = .returned (.slice (some ⟨c, 0, none⟩) ((x.length + 7) / 8) ((x.length + 7) / 8)) ∧ w'.heap[c]? = some (.cells ((pack x).map (Value.int .u8)).toArray 5 (0, 0)) ∧ W.heap.size ≤ c ∧ Below W.heap.size W w' := by
  have e1 : ∀ w, (binOp BinOp.eql 47 (.pointer (some ⟨g, 0, none⟩)) (.pointer none)).run Tryz.prog w = .ok (.bool false) w := fun w => by kernel_rfl
  have hh := blk_cell h.head 1
  simp at hh
  have hle := h.le
  have hlt := blk_lt h.head
  have hmk := print_make_int (P := Tryz.prog) 25 5 (.int .u8 0) 1 Tryz.underlying25 info5 rfl (by decide) (((x.length : Int) + 7) / 8) (by omega) (by omega)
  rw [show (((x.length : Int) + 7) / 8).toNat = (x.length + 7) / 8 from by omega, made_zeros] at hmk
  go_enter Tryz.func29, Tryz.ntmps29
  go_wp2_with (refine wpList_copy_splice rfl (.tmp 12) (.tmp 16) 25 25 rfl 5 Tryz.underlying25 (by kernel_rfl) _ _ _ _ _ _ rfl rfl W.heap.size 0 (List.replicate ((x.length + 7) / 8) (Value.int .u8 0)) 5 ?c1 ((pack x).map (Value.int .u8)) ?c2 ?c3 ?c4 ?c5 W.heap.size W ?c6 (Nat.le_refl _) ?_)
  case c1 => simpa using heap_alloc_new W (.cells (Array.replicate ((x.length + 7) / 8) (Value.int IntKind.u8 0)) 5)
  case c2 => simp [pack_len]
  case c3 =>
    intro _ j v hj
    have hS := h.below (below_alloc (Below.refl _ _) (.cells (Array.replicate ((x.length + 7) / 8) (Value.int IntKind.u8 0)) 5))
    rw [blk_cell hS.row j]
    simp [hj]
  case c4 => simp [pack_len]
  case c5 => intro v hv; obtain ⟨z, _, rfl⟩ := List.mem_map.1 hv; rfl
  case c6 => exact below_alloc (Below.refl _ _) _
  intro w' hw hb
  have hs : splice (List.replicate ((x.length + 7) / 8) (Value.int IntKind.u8 0)) 0 (List.map (Value.int IntKind.u8) (pack x)) = List.map (Value.int IntKind.u8) (pack x) := by simp [splice, pack_len]
  rw [hs] at hw
  clear hs
  go_wp2
  go_ret
  exact ⟨_, rfl, hw, Nat.le_refl _, hb⟩
end Go.Proofs.YtehbkhddbdgbcaaGreatDoor.Bits
