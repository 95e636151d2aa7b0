/- The example of the statements about bitmap holds. -/
import Derived.Test.YtbjnfephigcdkaaSetMore
namespace Go.Proofs.Ytbjnfephigcdkaa.Bits
open Go.RowKit Go.Proofs.YtbjnfephigcdkaaW.PrintWords Go.Proofs.YtbjnfephigcdkaaW.PrintLast Go.Proofs.YtbjnfephigcdkaaW.PrintMore Go.Proofs.Ytbjnfephigcdkaa.PBitmapPlays
attribute [local go_sem] max2_int min2_int max_two min_two max_three min_three max_four min_four
set_option linter.unusedVariables false
set_option linter.unusedSimpArgs false
theorem C_blk {W : World} {c : Nat} {l : List Int} {t : TypeId} (h : W.heap[c]? = some (.cells (l.map (Value.int .u8)).toArray t (0, 0))) (hl : l.length ≤ 9223372036854775807) : (Kd.int .u8).C W (some ⟨c, 0, none⟩) l.length l := by
  refine Kd.C_of_reads (enc := Value.int .u8) (d := (0 : Int)) (h1 := fun _ => rfl) ⟨rfl, hl, fun _ => ⟨_, rfl, fun j hj => ?_⟩⟩
  have := blk_cell h j
  rw [show (Addr.add ⟨c, 0, none⟩ j) = ⟨c, j, none⟩ from by by_cases h0 : j = 0 <;> simp [Addr.add, h0]]
  rw [this]
  simp [List.getD, hj]
theorem w64 {n : Int} (h0 : -9223372036854775808 ≤ n) (h1 : n ≤ 9223372036854775807) : wrap64 n = n := by unfold wrap64; omega
theorem rd_get {xs : List Int} {i : Nat} (h : i < xs.length) : rd xs (i : Int) = xs[i] := by simp [rd, h]
/-! estreatref01.Same: are two lists one? -/
theorem same_l0 (xs ys : List Int) (hl : xs.length = ys.length) (hb : xs.length < 9223372036854775807) : ∀ (d k i : Nat), xs.length = i + d → d < k → estreatref01_Same.l0 k xs ys i = some (decide (xs.drop i = ys.drop i)) := by
  intro d
  induction d with
  | zero =>
    intro k i hd hk
    obtain ⟨k, rfl⟩ : ∃ m, k = m + 1 := ⟨k - 1, by omega⟩
    simp only [estreatref01_Same.l0]; rw [if_neg (by omega), List.drop_of_length_le (by omega), List.drop_of_length_le (by omega)]; simp
  | succ d ih =>
    intro k i hd hk
    obtain ⟨k, rfl⟩ : ∃ m, k = m + 1 := ⟨k - 1, by omega⟩
    simp only [estreatref01_Same.l0]
    have := ih k (i + 1) (by omega) (by omega)
    simp only [Int.natCast_add, Int.natCast_one] at this
    rw [if_pos (by omega), if_pos (by omega), if_pos (by omega), rd_get (by omega), rd_get (by omega), w64 (by omega) (by omega), this]
    have ex : xs.drop i = xs[i] :: xs.drop (i + 1) := List.drop_eq_getElem_cons (by omega)
    have ey : ys.drop i = ys[i] :: ys.drop (i + 1) := List.drop_eq_getElem_cons (by omega)
    rw [ex, ey]
    by_cases h : xs[i] = ys[i]
    · rw [if_pos h, h]; simp only [List.cons.injEq, true_and]
    · rw [if_neg h, decide_eq_false]; simp only [List.cons.injEq, h, false_and, not_false_eq_true]
theorem same_f (xs ys : List Int) (hb : xs.length < 9223372036854775807) : ∀ k, xs.length < k → estreatref01_Same.f k xs ys = some (decide (xs = ys)) := by
  intro k hk
  unfold estreatref01_Same.f
  by_cases h : xs.length = ys.length
  · rw [if_pos (by omega)]
    have := same_l0 xs ys h hb xs.length k 0 (by omega) hk
    simpa using this
  · rw [if_neg (by omega)]
    have : xs ≠ ys := fun e => h (by rw [e])
    simp [this]
/-! estreatref07.Same: are two lists one? -/
theorem same7_l0 (xs ys : List Int) (hl : xs.length = ys.length) (hb : xs.length < 9223372036854775807) : ∀ (d k i : Nat), xs.length = i + d → d < k → estreatref07_Same.l0 k xs ys i = some (decide (xs.drop i = ys.drop i)) := by
  intro d
  induction d with
  | zero =>
    intro k i hd hk
    obtain ⟨k, rfl⟩ : ∃ m, k = m + 1 := ⟨k - 1, by omega⟩
    simp only [estreatref07_Same.l0]; rw [if_neg (by omega), List.drop_of_length_le (by omega), List.drop_of_length_le (by omega)]; simp
  | succ d ih =>
    intro k i hd hk
    obtain ⟨k, rfl⟩ : ∃ m, k = m + 1 := ⟨k - 1, by omega⟩
    simp only [estreatref07_Same.l0]
    have := ih k (i + 1) (by omega) (by omega)
    simp only [Int.natCast_add, Int.natCast_one] at this
    rw [if_pos (by omega), if_pos (by omega), if_pos (by omega), rd_get (by omega), rd_get (by omega), w64 (by omega) (by omega), this]
    have ex : xs.drop i = xs[i] :: xs.drop (i + 1) := List.drop_eq_getElem_cons (by omega)
    have ey : ys.drop i = ys[i] :: ys.drop (i + 1) := List.drop_eq_getElem_cons (by omega)
    rw [ex, ey]
    by_cases h : xs[i] = ys[i]
    · rw [if_pos h, h]; simp only [List.cons.injEq, true_and]
    · rw [if_neg h, decide_eq_false]; simp only [List.cons.injEq, h, false_and, not_false_eq_true]
theorem same7_f (xs ys : List Int) (hb : xs.length < 9223372036854775807) : ∀ k, xs.length < k → estreatref07_Same.f k xs ys = some (decide (xs = ys)) := by
  intro k hk
  unfold estreatref07_Same.f
  by_cases h : xs.length = ys.length
  · rw [if_pos (by omega)]
    have := same7_l0 xs ys h hb xs.length k 0 (by omega) hk
    simpa using this
  · rw [if_neg (by omega)]
    have : xs ≠ ys := fun e => h (by rw [e])
    simp [this]
theorem same_any (W : World) (A0 : Option Addr) (c0 : Nat) (l0 : List Int) (A1 : Option Addr) (c1 : Nat) (l1 : List Int) (hr0 : (Kd.int .u8).C W A0 l0.length l0) (hc0 : l0.length ≤ c0) (hr1 : (Kd.int .u8).C W A1 l1.length l1) (hc1 : l1.length ≤ c1) (hl : l0.length < 9223372036854775807) :
    Calls Try.prog 17 #[.slice A0 l0.length c0, .slice A1 l1.length c1] W fun e w' => e = .returned (.bool (decide (l0 = l1))) ∧ Drawn0 W w' :=
  estreatref01_Same.calls (l0.length + 1) A0 c0 l0 A1 c1 l1 _ W hr0 hc0 hr1 hc1 (same_f l0 l1 hl _ (by omega))
theorem same7_any (W : World) (A0 : Option Addr) (c0 : Nat) (l0 : List Int) (A1 : Option Addr) (c1 : Nat) (l1 : List Int) (hr0 : (Kd.int .i64).C W A0 l0.length l0) (hc0 : l0.length ≤ c0) (hr1 : (Kd.int .i64).C W A1 l1.length l1) (hc1 : l1.length ≤ c1) (hl : l0.length < 9223372036854775807) :
    Calls Try.prog 57 #[.slice A0 l0.length c0, .slice A1 l1.length c1] W fun e w' => e = .returned (.bool (decide (l0 = l1))) ∧ Drawn0 W w' :=
  estreatref07_Same.calls (l0.length + 1) A0 c0 l0 A1 c1 l1 _ W hr0 hc0 hr1 hc1 (same7_f l0 l1 hl _ (by omega))
def x0 : List Bool := List.replicate 10 false
def x1 : List Bool := [true, false, false, false, false, false, false, false, false, false]
def x2 : List Bool := [true, false, false, false, false, false, false, false, false, true]
theorem M0 (W : World) (g b : Nat) (h : IsSet W g b x0) : Calls Try.prog 44 #[.pointer (some ⟨g, 0, none⟩), .int .i64 0] W fun e w' => e = .returned (.bool true) ∧ IsSet w' g b x1 ∧ (∀ B w0, B ≤ b → Below B w0 W → Below B w0 w') :=
  (Mark_any W g b x0 0 h).mono (by rintro e w' ⟨rfl, h1, _, _, h2⟩; exact ⟨rfl, h1, h2⟩)
theorem M1 (W : World) (g b : Nat) (h : IsSet W g b x1) : Calls Try.prog 44 #[.pointer (some ⟨g, 0, none⟩), .int .i64 9] W fun e w' => e = .returned (.bool true) ∧ IsSet w' g b x2 ∧ (∀ B w0, B ≤ b → Below B w0 W → Below B w0 w') :=
  (Mark_any W g b x1 9 h).mono (by rintro e w' ⟨rfl, h1, _, _, h2⟩; exact ⟨rfl, h1, h2⟩)
theorem M2 (W : World) (g b : Nat) (h : IsSet W g b x2) : Calls Try.prog 44 #[.pointer (some ⟨g, 0, none⟩), .int .i64 9] W fun e w' => e = .returned (.bool false) ∧ IsSet w' g b x2 ∧ (∀ B w0, B ≤ b → Below B w0 W → Below B w0 w') :=
  (Mark_any W g b x2 9 h).mono (by rintro e w' ⟨rfl, h1, _, _, h2⟩; exact ⟨rfl, h1, h2⟩)
theorem B2 (W : World) (g b : Nat) (h : IsSet W g b x2) : Calls Try.prog 40 #[.pointer (some ⟨g, 0, none⟩)] W fun e w' => ∃ c, e = .returned (.slice (some ⟨c, 0, none⟩) 2 2) ∧ w'.heap[c]? = some (.cells (([1, 2] : List Int).map (Value.int .u8)).toArray 5 (0, 0)) ∧ Below W.heap.size W w' :=
  (Bytes_any W g b x2 h).mono (by rintro e w' ⟨c, rfl, h1, _, h2⟩; exact ⟨c, rfl, h1, h2⟩)
theorem S12 (W : World) (c d : Nat) (hc : W.heap[c]? = some (.cells (([1, 2] : List Int).map (Value.int .u8)).toArray 5 (0, 0))) (hd : W.heap[d]? = some (.cells (([1, 2] : List Int).map (Value.int .u8)).toArray 5 (0, 0))) : Calls Try.prog 17 #[.slice (some ⟨c, 0, none⟩) 2 2, .slice (some ⟨d, 0, none⟩) 2 2] W fun e w' => e = .returned (.bool true) ∧ Drawn0 W w' := by
  have := same_any W (some ⟨c, 0, none⟩) 2 [1, 2] (some ⟨d, 0, none⟩) 2 [1, 2] (C_blk hc (by decide)) (Nat.le_refl _) (C_blk hd (by decide)) (Nat.le_refl _) (by decide)
  simpa using this
set_option maxHeartbeats 4000000 in
theorem awake_any (W : World) : Calls Try.prog 37 #[] W fun e w' => e = .returned (.bool true) ∧ Below W.heap.size W w' := by
  have hN := New_some 10 W (by omega)
  go_enter Try.func37, Try.ntmps37
  go_wp2_with (first | (go_at_call 43; refine hN.mono ?_; rintro e w1 ⟨g, b, rfl, hS0, hg, hb, hB⟩) | (go_at_call 44; refine (M0 _ _ _ hS0).mono ?_; rintro e w2 ⟨rfl, hS1, hf⟩; have hB2 := hf _ _ hb hB; clear hf hS0 hB) | (go_at_call 44; refine (M1 _ _ _ hS1).mono ?_; rintro e w3 ⟨rfl, hS2, hf⟩; have hB3 := hf _ _ hb hB2; clear hf hS1 hB2) | (go_at_call 44; refine (M2 _ _ _ hS2).mono ?_; rintro e w4 ⟨rfl, hS3, hf⟩; have hB4 := hf _ _ hb hB3; clear hf hS2 hB3) | (go_at_call 40; refine (B2 _ _ _ hS3).mono ?_; rintro e w5 ⟨c, rfl, hc, hB5⟩) | (go_at_call 17; refine (S12 _ _ _ (blk_below hc (below_alloc (Below.refl _ _) _)) (heap_alloc_new _ _)).mono ?_; rintro e w6 ⟨rfl, hd⟩))
  go_ret
  exact ⟨rfl, below_step (below_alloc (below_step hB4 hB5) _) hd.below⟩
end Go.Proofs.Ytbjnfephigcdkaa.Bits
