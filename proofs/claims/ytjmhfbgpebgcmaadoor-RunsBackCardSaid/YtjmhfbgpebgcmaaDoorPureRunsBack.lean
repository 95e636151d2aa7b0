/- What estreatlaw09.RunsBack computes is true for any numbers, bytes and count. -/
import Derived.Test.YtjmhfbgpebgcmaaDoorPRunsBackx5
import Derived.Lib.Zigzag
import Derived.Lib.BitFns
namespace Go.Proofs.YtjmhfbgpebgcmaaDoor.Pure
open Go.RowKit Go.Proofs.YtjmhfbgpebgcmaaDoor.PRunsBack Go.Proofs.YtjmhfbgpebgcmaaDoorW.PrintWords Go.Proofs.YtjmhfbgpebgcmaaDoorW.PrintLast Go.Proofs.YtjmhfbgpebgcmaaDoorW.PrintMore

/-! estreatref01.Same: are two lists one? -/
theorem same_l0 (xs ys : List Int) (hl : xs.length = ys.length) (hb : xs.length < 9223372036854775807) : ∀ (d k i : Nat), xs.length = i + d → d < k → estreatref01_Same.l0 k xs ys i = some (decide (xs.drop i = ys.drop i)) := by
  intro d
  induction d with
  | zero =>
    intro k i hd hk
    obtain ⟨k, rfl⟩ : ∃ m, k = m + 1 := ⟨k - 1, by omega⟩
    simp only [estreatref01_Same.l0]; rw [if_neg (by omega), List.drop_of_length_le (by omega), List.drop_of_length_le (by omega)]; simp
  | succ d ih =>
    intro k i hd hk
    obtain ⟨k, rfl⟩ : ∃ m, k = m + 1 := ⟨k - 1, by omega⟩
    simp only [estreatref01_Same.l0]
    have := ih k (i + 1) (by omega) (by omega)
    simp only [Int.natCast_add, Int.natCast_one] at this
    rw [if_pos (by omega), if_pos (by omega), if_pos (by omega), rd_get (by omega), rd_get (by omega), w64 (by omega) (by omega), this]
    have ex : xs.drop i = xs[i] :: xs.drop (i + 1) := List.drop_eq_getElem_cons (by omega)
    have ey : ys.drop i = ys[i] :: ys.drop (i + 1) := List.drop_eq_getElem_cons (by omega)
    rw [ex, ey]
    by_cases h : xs[i] = ys[i]
    · rw [if_pos h, h]; simp only [List.cons.injEq, true_and]
    · rw [if_neg h, decide_eq_false]; simp only [List.cons.injEq, h, false_and, not_false_eq_true]
theorem same_f (xs ys : List Int) (hb : xs.length < 9223372036854775807) : ∀ k, xs.length < k → estreatref01_Same.f k xs ys = some (decide (xs = ys)) := by
  intro k hk
  unfold estreatref01_Same.f
  by_cases h : xs.length = ys.length
  · rw [if_pos (by omega)]
    have := same_l0 xs ys h hb xs.length k 0 (by omega) hk
    simpa using this
  · rw [if_neg (by omega)]
    have : xs ≠ ys := fun e => h (by rw [e])
    simp [this]

/-! the short number that begins bytes: how many bytes it has, or an error -/
def sh : List Int → Nat → Nat → Int × Int × Int
  | [], _, _ => (0, 0, 2)
  | b :: l, n, v =>
    if 9 < n ∨ (n = 9 ∧ 1 < b.toNat % 128) ∨ (0 < n ∧ b = 0) then (0, 0, 4)
    else if b < 128 then (((v + b.toNat % 128 * 128 ^ n : Nat) : Int), ((n + 1 : Nat) : Int), 0)
    else sh l (n + 1) (v + b.toNat % 128 * 128 ^ n)
theorem or_add (v x n : Nat) (h : v < 2 ^ n) : v ||| (x * 2 ^ n) = v + x * 2 ^ n := by
  rw [Nat.or_comm, Nat.mul_comm x, ← Nat.two_pow_add_eq_or_of_lt h, Nat.add_comm]
theorem shl64s {x n : Nat} (hn : n ≤ 64) (h : x * 2 ^ n < 18446744073709551616) : shl .u64 (x : Int) n = ((x * 2 ^ n : Nat) : Int) := by
  unfold shl
  rw [Int.toNat_natCast, show IntKind.u64.bits = 64 from rfl, Nat.min_eq_left hn, show ((x : Int) * 2 ^ n) = ((x * 2 ^ n : Nat) : Int) by simp, u64w_id (Int.natCast_nonneg _) (by omega)]
theorem sh_bound {c n v : Nat} (hn : n ≤ 9) (h9 : ¬ (n = 9 ∧ 1 < c % 128)) (hv : v < 128 ^ n) : v + c % 128 * 128 ^ n < 18446744073709551616 ∧ v + c % 128 * 128 ^ n < 128 ^ (n + 1) := by
  have h9' : n = 9 → c % 128 ≤ 1 := fun h => by omega
  clear h9
  rcases (show n = 0 ∨ n = 1 ∨ n = 2 ∨ n = 3 ∨ n = 4 ∨ n = 5 ∨ n = 6 ∨ n = 7 ∨ n = 8 ∨ n = 9 by omega) with rfl | rfl | rfl | rfl | rfl | rfl | rfl | rfl | rfl | rfl <;> simp only [Nat.reducePow, Nat.reduceAdd] at hv ⊢ <;> first | omega | (have := h9' rfl; omega)
theorem sh_or {c n v : Nat} (hn : n ≤ 9) (h9 : ¬ (n = 9 ∧ 1 < c % 128)) (hv : v < 128 ^ n) : Go.bits .or .u64 (v : Int) (shl .u64 ((c % 128 : Nat) : Int) (IntKind.u64.wrap ((7 * n : Nat) : Int))) = ((v + c % 128 * 128 ^ n : Nat) : Int) := by
  have hb := (sh_bound hn h9 hv).1
  have e : 128 ^ n = 2 ^ (7 * n) := by rw [Nat.pow_mul]
  rw [u64w_id (by omega) (by omega)]
  rw [e] at hb hv ⊢
  rw [shl64s (by omega) (Nat.lt_of_le_of_lt (Nat.le_add_left _ _) hb), bits_or_u64_nat _ _ (Nat.lt_of_le_of_lt (Nat.le_add_right _ _) hb) (Nat.lt_of_le_of_lt (Nat.le_add_left _ _) hb), or_add _ _ _ hv]
theorem and128 : ∀ c : Nat, c < 256 → (Go.bits .and .u8 (c : Int) 128 = 0 ↔ c < 128) := by decide +kernel
theorem and127' : ∀ c : Nat, c < 256 → Go.bits .and .u8 (c : Int) 127 = ((c % 128 : Nat) : Int) := by decide +kernel
theorem and127 {c : Nat} (h : c < 256) : IntKind.u64.wrap (Go.bits .and .u8 (c : Int) 127) = ((c % 128 : Nat) : Int) := by
  rw [and127' c h, u64w_id (by omega) (by omega)]
theorem shr9 {c : Nat} : (shr .u64 ((c % 128 : Nat) : Int) (IntKind.u64.wrap (wrap64 (64 - ((7 * 9 : Nat) : Int)))) != 0) = decide (1 < c % 128) := by
  have e : IntKind.u64.wrap (wrap64 (64 - ((7 * 9 : Nat) : Int))) = 1 := by rw [w64 (by omega) (by omega), u64w_id (by omega) (by omega)]; rfl
  rw [e]; unfold shr
  rw [show (2 : Int) ^ min (1 : Int).toNat IntKind.u64.bits = 2 by decide]
  by_cases h : 1 < c % 128
  · rw [decide_eq_true h, bne_iff_ne]; omega
  · rw [decide_eq_false h]; simp only [bne_eq_false_iff_eq]; omega
theorem short_at (L : List Int) (_ : L.length < 4611686018427387904) (k n v c : Nat) (h : n < L.length) (hc : L[n] = (c : Int)) (hc2 : c < 256) (hn : n ≤ 9) :
    num_short.l0 (k + 1) L v n ((7 * n : Nat) : Int) = num_short.j1 k L v ((n + 1 : Nat) : Int) ((7 * n : Nat) : Int) c ((c % 128 : Nat) : Int) (decide (n = 9 ∧ 1 < c % 128)) := by
  have hrd : rd L (n : Int) = (c : Int) := by rw [rd_get h, hc]
  simp only [num_short.l0]
  rw [if_neg (by omega), if_pos (by omega), if_pos (by omega), if_neg (by omega), hrd, and127 hc2, w64 (n := (n : Int) + 1) (by omega) (by omega), w64 (n := ((7 * n : Nat) : Int) + 7) (by omega) (by omega)]
  rw [show ((n : Int) + 1) = ((n + 1 : Nat) : Int) by omega]
  by_cases h9 : n = 9
  · subst h9
    rw [if_pos (by omega), if_pos (by rw [u64w]; omega), shr9]
    simp
  · rw [if_neg (by omega), decide_eq_false (by omega)]
theorem short_l0 (L : List Int) (hw : ∀ x ∈ L, 0 ≤ x ∧ x < 256) (hl : L.length < 4611686018427387904) : ∀ (d n v : Nat), L.length = n + d → n ≤ 10 → v < 128 ^ n → Ev (fun k => num_short.l0 k L v n ((7 * n : Nat) : Int)) (sh (L.drop n) n v) := by
  intro d
  induction d with
  | zero =>
    intro n v hd hn hv
    rw [List.drop_of_length_le (by omega)]
    exact Ev.step (f := fun _ => some (0, 0, 2)) (fun k => by simp only [num_short.l0]; rw [if_pos (by omega)]) (Ev.now _)
  | succ d ih =>
    intro n v hd hn hv
    have hlt : n < L.length := by omega
    obtain ⟨c, hc, hc2⟩ : ∃ c : Nat, L[n] = (c : Int) ∧ c < 256 := ⟨L[n].toNat, by have := hw _ (List.getElem_mem hlt); omega, by have := hw _ (List.getElem_mem hlt); omega⟩
    have hrd : rd L (n : Int) = (c : Int) := by rw [rd_get hlt, hc]
    rw [dropc L n hlt, hc]
    simp only [sh, Int.toNat_natCast]
    by_cases hN : 9 < n
    · rw [if_pos (.inl hN)]
      refine Ev.step (f := fun k => num_short.j1 k L v (wrap64 (n + 1)) ((7 * n : Nat) : Int) (rd L n) (IntKind.u64.wrap (Go.bits .and .u8 (rd L n) 127)) (decide ((7 * n : Nat) ≥ (64 : Int)))) (fun k => by simp only [num_short.l0]; rw [if_neg (by omega), if_pos (by omega), if_pos (by omega), if_pos (by omega)]) ?_
      refine Ev.step (f := fun _ => some (0, 0, 4)) (fun k => by simp only [num_short.j1]; rw [if_pos (decide_eq_true (by omega))]) (Ev.now _)
    · refine Ev.step (short_at L hl · n v c hlt hc hc2 (by omega)) ?_
      by_cases h9 : n = 9 ∧ 1 < c % 128
      · rw [if_pos (.inr (.inl h9)), decide_eq_true h9]
        exact Ev.step (f := fun _ => some (0, 0, 4)) (fun k => by simp only [num_short.j1]; rw [if_pos trivial]) (Ev.now _)
      · rw [decide_eq_false h9]
        refine Ev.step (f := fun k => num_short.j2 k L v ((n + 1 : Nat) : Int) ((7 * n : Nat) : Int) c ((c % 128 : Nat) : Int) (decide (0 < n ∧ c = 0))) (fun k => by
          simp only [num_short.j1]
          rw [if_neg (by decide)]
          by_cases h0 : c = 0
          · rw [if_pos (by omega)]; congr 1; exact decide_eq_decide.mpr (by omega)
          · rw [if_neg (by omega), decide_eq_false (by omega)]) ?_
        by_cases h0 : 0 < n ∧ c = 0
        · rw [if_pos (.inr (.inr ⟨h0.1, by omega⟩)), decide_eq_true h0]
          exact Ev.step (f := fun _ => some (0, 0, 4)) (fun k => by simp only [num_short.j2]; rw [if_pos trivial]) (Ev.now _)
        · rw [if_neg (by rintro (h | h | h); exact hN h; exact h9 h; exact h0 ⟨h.1, by omega⟩), decide_eq_false h0]
          have hor := sh_or (c := c) (n := n) (v := v) (by omega) h9 hv
          have hbd := sh_bound (c := c) (n := n) (v := v) (by omega) h9 hv
          have hu : IntKind.u64.wrap ((7 * n : Nat) : Int) = ((7 * n : Nat) : Int) := u64w_id (by omega) (by omega)
          generalize v + c % 128 * 128 ^ n = v2 at hor hbd ⊢
          by_cases h8 : c < 128
          · rw [if_pos (by omega)]
            exact Ev.step (f := fun _ => some ((v2 : Int), ((n + 1 : Nat) : Int), 0)) (fun k => by simp only [num_short.j2]; rw [if_neg (by decide), if_pos (by rw [hu]; exact Int.natCast_nonneg _), if_pos ((and128 c hc2).2 h8), hor]) (Ev.now _)
          · rw [if_neg (by omega)]
            refine Ev.step (f := fun k => num_short.l0 k L v2 ((n + 1 : Nat) : Int) ((7 * (n + 1) : Nat) : Int)) (fun k => by
              simp only [num_short.j2]
              rw [if_neg (by decide), if_pos (by rw [hu]; exact Int.natCast_nonneg _), if_neg (fun h => h8 ((and128 c hc2).1 h)), hor, w64 (by omega) (by omega)]
              rw [show ((7 * n : Nat) : Int) + 7 = ((7 * (n + 1) : Nat) : Int) by omega]) ?_
            exact ih (n + 1) v2 (by omega) (by omega) hbd.2
theorem short_f (L : List Int) (hw : ∀ x ∈ L, 0 ≤ x ∧ x < 256) (hl : L.length < 4611686018427387904) : Ev (fun k => num_short.f k L) (sh L 0 0) := by
  have := short_l0 L hw hl L.length 0 0 (by omega) (by omega) (by decide)
  rw [List.drop_zero] at this
  exact Ev.congr (fun k => by unfold num_short.f; rfl) this

/-! num.Zag, estreatref01.Zag -/
def zag (v : Nat) : Int := if v % 2 = 0 then ((v / 2 : Nat) : Int) else -((v / 2 : Nat) : Int) - 1
theorem xor_i64_zero (x : Nat) (hx : x < 9223372036854775808) : Go.bits .xor .i64 (x : Int) 0 = (x : Int) := by
  show IntKind.i64.wrap ((BitVec.ofInt 64 (x : Int) ^^^ BitVec.ofInt 64 0).toNat : Int) = _
  have h2 : (BitVec.ofInt 64 (x : Int)).toNat = x := by
    rw [BitVec.ofInt_natCast, BitVec.toNat_ofNat]; exact Nat.mod_eq_of_lt (by omega)
  rw [BitVec.toNat_xor, h2, show (BitVec.ofInt 64 0).toNat = 0 by decide, Nat.xor_zero, IntKind.wrap_i64]; omega
theorem xor_i64_ones (x : Nat) (hx : x < 9223372036854775808) : Go.bits .xor .i64 (x : Int) (-1) = -(x : Int) - 1 := by
  rw [← Lib.i64_not x hx]
  show IntKind.i64.wrap ((BitVec.ofInt 64 (x : Int) ^^^ BitVec.ofInt 64 (-1)).toNat : Int) = IntKind.i64.wrap ((BitVec.ofInt 64 (-1) ^^^ BitVec.ofInt 64 (x : Int)).toNat : Int)
  rw [BitVec.xor_comm]
theorem zag_f (v : Nat) (hv : v < 18446744073709551616) : num_Zag.f v = some (zag v) := by
  unfold num_Zag.f zag
  have h1 : wrap64 ((v : Int) / 2) = ((v / 2 : Nat) : Int) := by rw [w64 (by omega) (by omega)]; omega
  rw [h1, Lib.u64_and1 _ (by omega) (by omega)]
  by_cases h : v % 2 = 0
  · rw [if_pos h, show ((v : Int) % 2) = 0 by omega, w64 (n := 0) (by omega) (by omega), w64 (by omega) (by omega), Int.neg_zero, xor_i64_zero _ (by omega)]
  · rw [if_neg h, show ((v : Int) % 2) = 1 by omega, w64 (n := 1) (by omega) (by omega), w64 (by omega) (by omega), xor_i64_ones _ (by omega)]
theorem zag_range {v : Nat} (hv : v < 18446744073709551616) : -9223372036854775808 ≤ zag v ∧ zag v ≤ 9223372036854775807 := by
  unfold zag; split <;> omega

/-! what Var comes to -/
theorem sh_cases : ∀ (l : List Int) (n v : Nat), (∀ x ∈ l, 0 ≤ x ∧ x < 256) → n ≤ 10 → v < 128 ^ n →
    sh l n v = (0, 0, 2) ∨ sh l n v = (0, 0, 4) ∨ ∃ v' m : Nat, sh l n v = ((v' : Int), (m : Int), 0) ∧ n < m ∧ m ≤ n + l.length ∧ v' < 18446744073709551616 := by
  intro l
  induction l with
  | nil => intro n v _ _ _; exact .inl rfl
  | cons b l ih =>
    intro n v hw hn hv
    obtain ⟨c, rfl, hc2⟩ : ∃ c : Nat, b = (c : Int) ∧ c < 256 := ⟨b.toNat, by have := hw b (by simp); omega, by have := hw b (by simp); omega⟩
    simp only [sh, Int.toNat_natCast]
    by_cases hE : 9 < n ∨ (n = 9 ∧ 1 < c % 128) ∨ (0 < n ∧ (c : Int) = 0)
    · rw [if_pos hE]; exact .inr (.inl rfl)
    · rw [if_neg hE]
      have hbd := sh_bound (c := c) (n := n) (v := v) (by omega) (by omega) hv
      generalize v + c % 128 * 128 ^ n = v2 at hbd ⊢
      by_cases h8 : (c : Int) < 128
      · rw [if_pos h8]
        exact .inr (.inr ⟨v2, n + 1, rfl, by omega, by simp only [List.length_cons]; omega, hbd.1⟩)
      · rw [if_neg h8]
        rcases ih (n + 1) v2 (fun x hx => hw x (by simp [hx])) (by omega) hbd.2 with h | h | ⟨v', m, h1, h2, h3, h4⟩
        · exact .inl h
        · exact .inr (.inl h)
        · exact .inr (.inr ⟨v', m, h1, by omega, by simp only [List.length_cons]; omega, h4⟩)
theorem drop_bytes {L : List Int} (hw : ∀ x ∈ L, 0 ≤ x ∧ x < 256) (a : Nat) : ∀ x ∈ L.drop a, 0 ≤ x ∧ x < 256 := fun x hx => hw x (List.mem_of_mem_drop hx)

theorem nvar_ok {b : List Int} (hw : ∀ x ∈ b, 0 ≤ x ∧ x < 256) (hl : b.length < 4611686018427387904) {a v m : Nat} {on : Int} (ha : a ≤ b.length) (h : sh (b.drop a) 0 0 = ((v : Int), (m : Int), 0)) (hm : a + m ≤ b.length) :
    Ev (fun k => num_Reader_Var.f k b a 0 on) ((v : Int), ((a + m : Nat) : Int), 0, on) := by
  have hs := short_f (b.drop a) (drop_bytes hw a) (by rw [List.length_drop]; omega)
  rw [h] at hs
  refine Ev.congr (f := fun k => _) (fun k => by unfold num_Reader_Var.f; rw [if_neg (by simp), if_pos ⟨Int.natCast_nonneg _, by omega⟩, Int.toNat_natCast]) (Ev.bind hs ?_)
  refine ⟨0, fun k _ => ?_⟩
  simp only [num_Reader_Fail.f, num_Reader_Fail.next, Option.bind_some]
  rw [w64 (by omega) (by omega)]
  simp
theorem nvar_err {b : List Int} (hw : ∀ x ∈ b, 0 ≤ x ∧ x < 256) (hl : b.length < 4611686018427387904) {a : Nat} {on x : Int} (ha : a ≤ b.length) (hx : x = 2 ∨ x = 4) (h : sh (b.drop a) 0 0 = (0, 0, x)) :
    Ev (fun k => num_Reader_Var.f k b a 0 on) (0, (a : Int), x, (a : Int)) := by
  have hs := short_f (b.drop a) (drop_bytes hw a) (by rw [List.length_drop]; omega)
  rw [h] at hs
  refine Ev.congr (f := fun k => _) (fun k => by unfold num_Reader_Var.f; rw [if_neg (by simp), if_pos ⟨Int.natCast_nonneg _, by omega⟩, Int.toNat_natCast]) (Ev.bind hs ?_)
  refine ⟨0, fun k _ => ?_⟩
  rcases hx with rfl | rfl
  all_goals
    simp [num_Reader_Fail.f, num_Reader_Fail.next]
    rw [w64 (by omega) (by omega)]

/-! runs.Get and estreatref09.Get come to one -/
def lastIs (out : List Int) (v : Int) : Prop := out.getLast? = some v
instance (out : List Int) (v : Int) : Decidable (lastIs out v) := inferInstanceAs (Decidable (_ = _))
/-- one run: how often less one, the number, the place behind; or an error -/
def rone (b : List Int) (a : Nat) : Nat × Nat × Nat × Int :=
  if (sh (b.drop a) 0 0).2.2 ≠ 0 then (0, 0, 0, (sh (b.drop a) 0 0).2.2)
  else if (sh (b.drop (a + (sh (b.drop a) 0 0).2.1.toNat)) 0 0).2.2 ≠ 0 then (0, 0, 0, (sh (b.drop (a + (sh (b.drop a) 0 0).2.1.toNat)) 0 0).2.2)
  else ((sh (b.drop a) 0 0).1.toNat, (sh (b.drop (a + (sh (b.drop a) 0 0).2.1.toNat)) 0 0).1.toNat, a + (sh (b.drop a) 0 0).2.1.toNat + (sh (b.drop (a + (sh (b.drop a) 0 0).2.1.toNat)) 0 0).2.1.toNat, 0)
def rgt (b : List Int) (N : Nat) : Nat → Nat → List Int → List Int × Int
  | 0, _, _ => ([], 0)
  | f + 1, a, out =>
    if out.length < N then
      if (rone b a).2.2.2 ≠ 0 then ([], (rone b a).2.2.2)
      else if N ≤ out.length + (rone b a).1 then ([], 5)
      else if lastIs out (zag (rone b a).2.1) then ([], 4)
      else rgt b N f (rone b a).2.2.1 (out ++ List.replicate ((rone b a).1 + 1) (zag (rone b a).2.1))
    else if a < b.length then ([], 3) else (out, 0)
theorem rd_last {out : List Int} {v : Int} (h : 0 < out.length) (hl : out.length < 9223372036854775807) : (rd out (wrap64 ((out.length : Int) - 1)) = v) ↔ lastIs out v := by
  have e : wrap64 ((out.length : Int) - 1) = ((out.length - 1 : Nat) : Int) := by rw [w64 (by omega) (by omega)]; omega
  rw [e, rd_get (by omega)]
  unfold lastIs
  rw [List.getLast?_eq_getElem?, List.getElem?_eq_getElem (by omega)]
  simp
theorem last_nil {v : Int} : ¬ lastIs [] v := by simp [lastIs]
theorem rone_cases {b : List Int} (hw : ∀ x ∈ b, 0 ≤ x ∧ x < 256) (a : Nat) (ha : a ≤ b.length) :
    (∃ x : Int, (x = 2 ∨ x = 4) ∧ sh (b.drop a) 0 0 = (0, 0, x) ∧ rone b a = (0, 0, 0, x)) ∨
    (∃ (v m : Nat) (x : Int), (x = 2 ∨ x = 4) ∧ sh (b.drop a) 0 0 = ((v : Int), (m : Int), 0) ∧ v < 18446744073709551616 ∧ a + m ≤ b.length ∧ sh (b.drop (a + m)) 0 0 = (0, 0, x) ∧ rone b a = (0, 0, 0, x)) ∨
    (∃ v m v2 m2 : Nat, sh (b.drop a) 0 0 = ((v : Int), (m : Int), 0) ∧ v < 18446744073709551616 ∧ a + m ≤ b.length ∧ sh (b.drop (a + m)) 0 0 = ((v2 : Int), (m2 : Int), 0) ∧ v2 < 18446744073709551616 ∧ a + m + m2 ≤ b.length ∧ a < a + m + m2 ∧ rone b a = (v, v2, a + m + m2, 0)) := by
  rcases sh_cases (b.drop a) 0 0 (drop_bytes hw a) (by omega) (by decide) with h | h | ⟨v, m, h, h1, h2, hv⟩
  · exact .inl ⟨2, .inl rfl, h, by unfold rone; rw [h]; rfl⟩
  · exact .inl ⟨4, .inr rfl, h, by unfold rone; rw [h]; rfl⟩
  · rw [List.length_drop] at h2
    refine .inr ?_
    rcases sh_cases (b.drop (a + m)) 0 0 (drop_bytes hw _) (by omega) (by decide) with g | g | ⟨v2, m2, g, g1, g2, gv⟩
    · exact .inl ⟨v, m, 2, .inl rfl, h, hv, by omega, g, by unfold rone; rw [h]; simp only [Int.toNat_natCast, ne_eq, not_true_eq_false, if_false]; rw [g]; rfl⟩
    · exact .inl ⟨v, m, 4, .inr rfl, h, hv, by omega, g, by unfold rone; rw [h]; simp only [Int.toNat_natCast, ne_eq, not_true_eq_false, if_false]; rw [g]; rfl⟩
    · rw [List.length_drop] at g2
      exact .inr ⟨v, m, v2, m2, h, hv, by omega, g, gv, by omega, by omega, by unfold rone; rw [h]; simp only [Int.toNat_natCast, ne_eq, not_true_eq_false, if_false]; rw [g]; simp⟩
theorem nvar_fail {b : List Int} {a : Nat} {x y : Int} (hx : x ≠ 0) : Ev (fun k => num_Reader_Var.f k b a x y) (0, (a : Int), x, y) :=
  ⟨0, fun k _ => by show num_Reader_Var.f k b a x y = _; unfold num_Reader_Var.f; rw [if_pos hx]⟩
theorem rep_snoc (v : Int) (i : Nat) (out : List Int) : out ++ List.replicate i v ++ [v] = out ++ List.replicate (i + 1) v := by rw [List.append_assoc, List.replicate_succ']
theorem nrun_l1 {b : List Int} (N : Int) (v : Int) (m a : Nat) (out : List Int) {r : List Int × Int} (ho : out.length + m < 17592186044416)
    (h : Ev (fun k => runs_Get.l0 k N (out ++ List.replicate m v) b a 0 0) r) : ∀ (d i : Nat), m = i + d → Ev (fun k => runs_Get.l1 k N (out ++ List.replicate i v) v m i b a 0 0) r := by
  intro d
  induction d with
  | zero =>
    intro i hi
    obtain rfl : m = i := by omega
    refine Ev.step (fun k => ?_) h
    simp only [runs_Get.l1]
    rw [if_neg (by omega)]
  | succ d ih =>
    intro i hi
    refine Ev.step (fun k => ?_) (ih (i + 1) (by omega))
    simp only [runs_Get.l1]
    rw [if_pos (by omega), if_pos (by simp; omega), rep_snoc, u64w_id (by omega) (by omega)]
    rfl
theorem nrget_l0 {b : List Int} (hw : ∀ x ∈ b, 0 ≤ x ∧ x < 256) (hl : b.length < 4611686018427387904) (N : Nat) (hN : N ≤ 65536) : ∀ (f a : Nat) (out : List Int), out.length ≤ N → a ≤ b.length → b.length - a < f →
    Ev (fun k => runs_Get.l0 k N out b a 0 0) (rgt b N f a out) := by
  intro f
  induction f with
  | zero => intro a out _ _ h; omega
  | succ f ih =>
    intro a out ho ha hf
    rw [rgt]
    by_cases hlt : out.length < N
    · rw [if_pos hlt]
      refine Ev.step (f := fun k => _) (fun k => by simp only [runs_Get.l0]; rw [if_pos (by omega)]) ?_
      rcases rone_cases hw a ha with ⟨x, hx, h, hr⟩ | ⟨v, m, x, hx, h, hv, h2, g, hr⟩ | ⟨v, m, v2, m2, h, hv, h2, g, gv, g2, g3, hr⟩
      · have hx0 : x ≠ 0 := by omega
        rw [hr, if_pos hx0]
        refine Ev.bind (nvar_err hw hl ha hx h) ?_
        refine Ev.bind (nvar_fail hx0) ⟨0, fun k _ => ?_⟩
        have hz := zag_f 0 (by decide)
        rw [Int.natCast_zero] at hz
        simp only [num_Reader_Err.f, Option.bind_some]
        rw [hz, Option.bind_some, if_neg hx0]
      · have hx0 : x ≠ 0 := by omega
        rw [hr, if_pos hx0]
        refine Ev.bind (nvar_ok hw hl ha h h2) ?_
        refine Ev.bind (nvar_err hw hl h2 hx g) ⟨0, fun k _ => ?_⟩
        have hz := zag_f 0 (by decide)
        rw [Int.natCast_zero] at hz
        simp only [num_Reader_Err.f, Option.bind_some]
        rw [hz, Option.bind_some, if_neg hx0]
      · rw [hr, if_neg (by simp)]
        refine Ev.bind (nvar_ok hw hl ha h h2) ?_
        refine Ev.bind (nvar_ok hw hl h2 g g2) ?_
        refine Ev.bind (a := zag v2) ⟨0, fun k _ => zag_f v2 gv⟩ ?_
        simp only [num_Reader_Err.f, Option.bind_some, if_true]
        have eu : IntKind.u64.wrap (wrap64 ((N : Int) - out.length)) = ((N - out.length : Nat) : Int) := by rw [w64 (by omega) (by omega), u64w_id (by omega) (by omega)]; omega
        rw [eu]
        by_cases h5 : N ≤ out.length + v
        · simp only [if_pos h5, if_pos (show (v : Int) ≥ ((N - out.length : Nat) : Int) by omega)]
          exact Ev.now _
        · simp only [if_neg h5, if_neg (show ¬ (v : Int) ≥ ((N - out.length : Nat) : Int) by omega)]
          have hgo : ¬ lastIs out (zag v2) → Ev (fun k => runs_Get.j2 k N out v (zag v2) b ((a + m + m2 : Nat) : Int) 0 0) (if lastIs out (zag v2) then ([], 4) else rgt b N f (a + m + m2) (out ++ List.replicate (v + 1) (zag v2))) := by
            intro h4
            rw [if_neg h4]
            refine Ev.step (f := fun k => runs_Get.l1 k N out (zag v2) ((v + 1 : Nat) : Int) 0 b ((a + m + m2 : Nat) : Int) 0 0) (fun k => by simp only [runs_Get.j2]; rw [u64w_id (by omega) (by omega)]; rfl) ?_
            have := nrun_l1 (b := b) (N : Int) (zag v2) (v + 1) (a + m + m2) out (by omega) (ih (a + m + m2) (out ++ List.replicate (v + 1) (zag v2)) (by simp; omega) g2 (by omega)) (v + 1) 0 (by omega)
            rw [List.replicate_zero, List.append_nil] at this
            exact this
          by_cases hp : out.length > 0
          · simp only [if_pos (show (out.length : Int) > 0 by omega)]
            have e1 : (0 : Int) ≤ wrap64 ((out.length : Int) - 1) := by rw [w64 (by omega) (by omega)]; omega
            have e2 : wrap64 ((out.length : Int) - 1) < (out.length : Int) := by rw [w64 (by omega) (by omega)]; omega
            simp only [if_pos e1, if_pos e2]
            by_cases h4 : lastIs out (zag v2)
            · simp only [if_pos h4, if_pos ((rd_last hp (by omega)).2 h4)]
              exact Ev.now _
            · simp only [if_neg (fun h => h4 ((rd_last hp (by omega)).1 h))]
              exact hgo h4
          · simp only [if_neg (show ¬ (out.length : Int) > 0 by omega)]
            have : out = [] := List.eq_nil_of_length_eq_zero (by omega)
            exact hgo (by rw [this]; exact last_nil)
    · rw [if_neg hlt]
      refine Ev.step (f := fun k => _) (fun k => by simp only [runs_Get.l0]; rw [if_neg (by omega)]) ⟨0, fun k _ => ?_⟩
      simp only [num_Reader_End.f]
      rw [w64 (by omega) (by omega)]
      by_cases h : a < b.length
      · rw [if_pos ⟨trivial, by omega⟩, Option.bind_some, if_neg (by simp), if_pos h]
      · rw [if_neg (by omega), Option.bind_some, if_pos rfl, if_neg h]
def rgetv (b : List Int) (n : Int) : List Int × Int := if n < 0 ∨ n > 65536 then ([], 1) else rgt b n.toNat (b.length + 1) 0 []
theorem nrget_f {b : List Int} (hw : ∀ x ∈ b, 0 ≤ x ∧ x < 256) (hl : b.length * 1 ≤ 140737488355328) (n : Int) : Ev (fun k => runs_Get.f k b n) (rgetv b n) := by
  unfold runs_Get.f rgetv
  by_cases h0 : n < 0
  · simp only [if_pos h0]
    rw [if_pos (.inl h0)]
    exact Ev.step (f := fun _ => some ([], 1)) (fun k => by simp only [runs_Get.j0]; rw [if_pos trivial]) (Ev.now _)
  · simp only [if_neg h0]
    by_cases h1 : n > 65536
    · rw [if_pos (.inr h1), decide_eq_true h1]
      exact Ev.step (f := fun _ => some ([], 1)) (fun k => by simp only [runs_Get.j0]; rw [if_pos trivial]) (Ev.now _)
    · rw [if_neg (by omega), decide_eq_false h1]
      obtain ⟨N, rfl⟩ := Int.eq_ofNat_of_zero_le (Int.not_lt.mp h0)
      rw [Int.toNat_natCast]
      refine Ev.step (fun k => ?_) (nrget_l0 hw (by omega) N (by omega) (b.length + 1) 0 [] (by simp) (by omega) (by omega))
      simp only [runs_Get.j0]
      rw [if_neg (by decide)]
      simp only [num_NewReader.f]
      rw [if_pos hl, Option.bind_some]
      rfl

/-! estreatref08.Same -/
theorem same8_l0 (xs ys : List Int) (hl : xs.length = ys.length) (hb : xs.length < 9223372036854775807) : ∀ (d k i : Nat), xs.length = i + d → d < k → estreatref08_Same.l0 k xs ys i = some (decide (xs.drop i = ys.drop i)) := by
  intro d
  induction d with
  | zero =>
    intro k i hd hk
    obtain ⟨k, rfl⟩ : ∃ m, k = m + 1 := ⟨k - 1, by omega⟩
    simp only [estreatref08_Same.l0]; rw [if_neg (by omega), List.drop_of_length_le (by omega), List.drop_of_length_le (by omega)]; simp
  | succ d ih =>
    intro k i hd hk
    obtain ⟨k, rfl⟩ : ∃ m, k = m + 1 := ⟨k - 1, by omega⟩
    simp only [estreatref08_Same.l0]
    have := ih k (i + 1) (by omega) (by omega)
    simp only [Int.natCast_add, Int.natCast_one] at this
    rw [if_pos (by omega), if_pos (by omega), if_pos (by omega), rd_get (by omega), rd_get (by omega), w64 (by omega) (by omega), this]
    have ex : xs.drop i = xs[i] :: xs.drop (i + 1) := List.drop_eq_getElem_cons (by omega)
    have ey : ys.drop i = ys[i] :: ys.drop (i + 1) := List.drop_eq_getElem_cons (by omega)
    rw [ex, ey]
    by_cases h : xs[i] = ys[i]
    · rw [if_pos h, h]; simp only [List.cons.injEq, true_and]
    · rw [if_neg h, decide_eq_false]; simp only [List.cons.injEq, h, false_and, not_false_eq_true]
theorem same8_f (xs ys : List Int) (hb : xs.length < 9223372036854775807) : Ev (fun k => estreatref08_Same.f k xs ys) (decide (xs = ys)) := by
  refine ⟨xs.length + 1, fun k hk => ?_⟩
  show estreatref08_Same.f k xs ys = _
  unfold estreatref08_Same.f
  by_cases h : xs.length = ys.length
  · rw [if_pos (by omega)]
    have := same8_l0 xs ys h hb xs.length k 0 (by omega) hk
    simpa using this
  · rw [if_neg (by omega)]
    have : xs ≠ ys := fun e => h (by rw [e])
    simp [this]

theorem runsawake : Ev (fun k => estreatlaw09_awake.f k) true := by
  unfold estreatlaw09_awake.f
  have h : runs_Put.f [5, 5, 5] = some ([2, 10], 0) := by
    have e : runForm (runsOf [5, 5, 5]) = [2, 10] := by
      have h1 : runsOf [5, 5, 5] = [(5, 3)] := by decide
      rw [h1]
      simp only [runForm, List.flatMap_cons, List.flatMap_nil]
      have hz : (zz 5).toNat = 10 := by decide
      rw [hz, leb_small (by decide), leb_small (by decide)]; rfl
    unfold runs_Put.f
    rw [if_neg (by decide), if_pos (by decide), e]
  rw [h]
  refine Ev.bind (Ev.now _) ?_
  refine Ev.bind (a := true) ⟨10, fun k hk => by
    have := same_f [2, 10] [2, 10] (by decide) k (by simp; omega)
    simpa using this⟩ ?_
  simp only [if_true]
  exact Ev.now _

theorem count_some (l : List Int) (h : l.length ≤ 65536) : runs_Count.f l = some ((runsOf l).length : Int) := by
  unfold runs_Count.f; rw [if_pos (by omega)]

/-! a short number that is put is read as it was; what is read is put as it was -/
theorem pow_split (w n : Nat) : w % 128 * 128 ^ n + w / 128 * 128 ^ (n + 1) = w * 128 ^ n := by
  have e : w / 128 * 128 ^ (n + 1) = 128 * (w / 128) * 128 ^ n := by rw [Nat.pow_succ]; ac_rfl
  rw [e, ← Nat.add_mul, Nat.mod_add_div]
theorem h9_of {w n : Nat} (hb : w * 128 ^ n < 18446744073709551616) : n = 9 → w ≤ 1 := by
  rintro rfl
  simp only [Nat.reducePow] at hb
  omega
theorem sh_leb (rest : List Int) : ∀ (w n v0 : Nat), n ≤ 9 → (0 < n → 0 < w) → w * 128 ^ n < 18446744073709551616 →
    sh (leb w ++ rest) n v0 = (((v0 + w * 128 ^ n : Nat) : Int), ((n + (leb w).length : Nat) : Int), 0) := by
  intro w
  induction w using Nat.strongRecOn with
  | _ w ih =>
  intro n v0 hn h0 hb
  have h9 := h9_of hb
  have e2 := pow_split w n
  have hb' : w / 128 * 128 ^ (n + 1) < 18446744073709551616 := Nat.lt_of_le_of_lt (by rw [← e2]; exact Nat.le_add_left _ _) hb
  clear hb
  by_cases hv : w < 128
  · clear ih hb' e2
    have hE : ¬ (9 < n ∨ (n = 9 ∧ 1 < w % 128) ∨ (0 < n ∧ (w : Int) = 0)) := by
      rintro (h | h | h)
      · omega
      · have := h9 h.1; omega
      · have := h0 h.1; omega
    rw [leb_small hv, List.singleton_append]
    simp only [sh, Int.toNat_natCast]
    rw [if_neg hE, if_pos (by omega), Nat.mod_eq_of_lt hv]
    rfl
  · have hn9 : n ≠ 9 := fun h => by have := h9 h; omega
    have hih := ih (w / 128) (by omega) (n + 1) (v0 + w % 128 * 128 ^ n) (by omega) (fun _ => by omega) hb'
    rw [Nat.add_assoc, e2] at hih
    clear ih hb' e2
    have hE : ¬ (9 < n ∨ (n = 9 ∧ 1 < (w % 128 + 128) % 128) ∨ (0 < n ∧ ((w % 128 + 128 : Nat) : Int) = 0)) := by omega
    have e : (w % 128 + 128) % 128 = w % 128 := by omega
    rw [leb_big hv, List.cons_append]
    simp only [sh, Int.toNat_natCast]
    rw [if_neg hE, if_neg (by omega), e, hih, List.length_cons, show n + 1 + (leb (w / 128)).length = n + ((leb (w / 128)).length + 1) by omega]
theorem sh_trunc : ∀ (w n v0 j : Nat), n ≤ 9 → (0 < n → 0 < w) → w * 128 ^ n < 18446744073709551616 → j < (leb w).length → sh ((leb w).take j) n v0 = (0, 0, 2) := by
  intro w
  induction w using Nat.strongRecOn with
  | _ w ih =>
  intro n v0 j hn h0 hb hj
  cases j with
  | zero => rfl
  | succ j =>
    have h9 := h9_of hb
    have e2 := pow_split w n
    have hb' : w / 128 * 128 ^ (n + 1) < 18446744073709551616 := Nat.lt_of_le_of_lt (by rw [← e2]; exact Nat.le_add_left _ _) hb
    clear hb e2
    by_cases hv : w < 128
    · rw [leb_small hv] at hj; simp at hj
    · have hn9 : n ≠ 9 := fun h => by have := h9 h; omega
      rw [leb_big hv, List.length_cons] at hj
      have hih := ih (w / 128) (by omega) (n + 1) (v0 + w % 128 * 128 ^ n) j (by omega) (fun _ => by omega) hb' (by omega)
      clear ih hb'
      have hE : ¬ (9 < n ∨ (n = 9 ∧ 1 < (w % 128 + 128) % 128) ∨ (0 < n ∧ ((w % 128 + 128 : Nat) : Int) = 0)) := by omega
      have e : (w % 128 + 128) % 128 = w % 128 := by omega
      rw [leb_big hv, List.take_succ_cons]
      simp only [sh, Int.toNat_natCast]
      rw [if_neg hE, if_neg (by omega), e, hih]
theorem leb_sh : ∀ (l : List Int) (n v0 v' m : Nat), (∀ x ∈ l, 0 ≤ x ∧ x < 256) → sh l n v0 = ((v' : Int), (m : Int), 0) →
    ∃ w, l = leb w ++ l.drop (m - n) ∧ v' = v0 + w * 128 ^ n ∧ n < m ∧ (0 < n → 0 < w) := by
  intro l
  induction l with
  | nil => intro n v0 v' m _ h; simp [sh] at h
  | cons b l ih =>
    intro n v0 v' m hw h
    obtain ⟨c, rfl, hc2⟩ : ∃ c : Nat, b = (c : Int) ∧ c < 256 := ⟨b.toNat, by have := hw b (by simp); omega, by have := hw b (by simp); omega⟩
    simp only [sh, Int.toNat_natCast] at h
    by_cases hE : 9 < n ∨ (n = 9 ∧ 1 < c % 128) ∨ (0 < n ∧ (c : Int) = 0)
    · rw [if_pos hE] at h; simp at h
    · rw [if_neg hE] at h
      by_cases h8 : (c : Int) < 128
      · rw [if_pos h8] at h
        simp only [Prod.mk.injEq, Int.natCast_inj, and_true] at h
        obtain ⟨h1, h2⟩ := h
        refine ⟨c, ?_, ?_, by omega, fun h => by omega⟩
        · rw [leb_small (by omega), show m - n = 1 by omega]; rfl
        · rw [← h1, Nat.mod_eq_of_lt (by omega)]
      · rw [if_neg h8] at h
        obtain ⟨w, h1, h2, h3, h4⟩ := ih (n + 1) _ v' m (fun x hx => hw x (by simp [hx])) h
        have hw0 := h4 (by omega)
        refine ⟨c % 128 + 128 * w, ?_, ?_, by omega, fun _ => by omega⟩
        · rw [leb_big (by omega), show (c % 128 + 128 * w) % 128 + 128 = c by omega, show (c % 128 + 128 * w) / 128 = w by omega, show m - n = (m - (n + 1)) + 1 by omega, List.drop_succ_cons, List.cons_append, ← h1]
        · rw [h2, Nat.add_mul, Nat.pow_succ, Nat.add_assoc]; congr 2; ac_rfl
theorem zag_zz {x : Int} (h0 : -9223372036854775808 ≤ x) (h1 : x ≤ 9223372036854775807) : zag (zz x).toNat = x := by
  unfold zag zz; split <;> split <;> omega
theorem zz_zag {v : Nat} : (zz (zag v)).toNat = v := by
  unfold zag zz; split <;> split <;> omega

/-! what runs.Put puts is read as it was; what runs.Get reads is put as it was -/
def expand (rs : List (Int × Nat)) : List Int := rs.flatMap fun x => List.replicate x.2 x.1
def okr : Option Int → List (Int × Nat) → Prop
  | _, [] => True
  | p, (x, k) :: r => p ≠ some x ∧ 1 ≤ k ∧ (-9223372036854775808 ≤ x ∧ x ≤ 9223372036854775807) ∧ okr (some x) r
theorem expand_cons (x : Int) (k : Nat) (r : List (Int × Nat)) : expand ((x, k) :: r) = List.replicate k x ++ expand r := by simp [expand]
theorem runForm_cons (x : Int) (k : Nat) (r : List (Int × Nat)) : runForm ((x, k) :: r) = leb (k - 1) ++ (leb (zz x).toNat ++ runForm r) := by simp [runForm]
theorem runsOf_expand : ∀ (rs : List (Int × Nat)) (p : Option Int), okr p rs → runsOf (expand rs) = rs := by
  intro rs
  induction rs with
  | nil => intro p _; rfl
  | cons y r ih =>
    obtain ⟨x, k⟩ := y
    intro p h
    obtain ⟨_, hk, _, hr⟩ := h
    obtain ⟨k, rfl⟩ : ∃ m, k = m + 1 := ⟨k - 1, by omega⟩
    rw [expand_cons, runsOf_run x (expand r) ?_ k, ih _ hr]
    intro y l he
    cases r with
    | nil => simp [expand] at he
    | cons z r =>
      obtain ⟨z, k2⟩ := z
      obtain ⟨h1, h2, _, _⟩ := hr
      obtain ⟨k2, rfl⟩ : ∃ m, k2 = m + 1 := ⟨k2 - 1, by omega⟩
      rw [expand_cons, List.replicate_succ, List.cons_append] at he
      injection he with he _
      rintro rfl
      exact h1 (by rw [he])
theorem runsOf_okr : ∀ l : List Int, (∀ x ∈ l, -9223372036854775808 ≤ x ∧ x ≤ 9223372036854775807) → okr none (runsOf l) ∧ expand (runsOf l) = l := by
  intro l
  induction l with
  | nil => intro _; exact ⟨trivial, rfl⟩
  | cons x l ih =>
    intro hw
    have hx := hw x (by simp)
    obtain ⟨h1, h2⟩ := ih (fun y hy => hw y (by simp [hy]))
    rw [runsOf]
    split
    · rename_i he
      rw [he] at h2
      rw [← h2]
      exact ⟨⟨by simp, by omega, hx, trivial⟩, by simp [expand]⟩
    · rename_i y k r he
      rw [he] at h1 h2
      obtain ⟨_, hk, hy, hr⟩ := h1
      by_cases e : x = y
      · subst e
        rw [if_pos rfl]
        refine ⟨⟨by simp, by omega, hx, hr⟩, ?_⟩
        rw [← h2, expand_cons, expand_cons, List.replicate_succ, List.cons_append]
      · rw [if_neg e]
        refine ⟨⟨by simp, by omega, hx, fun h => e (Option.some.inj h), hk, hy, hr⟩, ?_⟩
        rw [expand_cons, ← h2]; rfl
theorem rone_put {x : Int} (hx : -9223372036854775808 ≤ x ∧ x ≤ 9223372036854775807) {k : Nat} (hk : k ≤ 65536) (pre rest : List Int) :
    rone (pre ++ (leb (k - 1) ++ (leb (zz x).toNat ++ rest))) pre.length = (k - 1, (zz x).toNat, pre.length + (leb (k - 1)).length + (leb (zz x).toNat).length, 0) := by
  have hz := zz_range hx.1 hx.2
  have s1 := sh_leb (leb (zz x).toNat ++ rest) (k - 1) 0 0 (by omega) (fun h => by omega) (by rw [Nat.pow_zero]; omega)
  have s2 := sh_leb rest (zz x).toNat 0 0 (by omega) (fun h => by omega) (by rw [Nat.pow_zero]; omega)
  rw [Nat.pow_zero, Nat.mul_one, Nat.zero_add, Nat.zero_add] at s1 s2
  have d2 : (pre ++ (leb (k - 1) ++ (leb (zz x).toNat ++ rest))).drop (pre.length + (leb (k - 1)).length) = leb (zz x).toNat ++ rest := by
    rw [← List.append_assoc, show pre.length + (leb (k - 1)).length = (pre ++ leb (k - 1)).length by rw [List.length_append], List.drop_left]
  unfold rone
  rw [List.drop_left, s1]
  simp only [Int.toNat_natCast, ne_eq, not_true_eq_false, if_false]
  rw [d2, s2]
  simp only [Int.toNat_natCast, not_true_eq_false, if_false]
theorem rgt_runs : ∀ (rs : List (Int × Nat)) (pre out : List Int) (f N : Nat), okr out.getLast? rs → N = out.length + (expand rs).length → N ≤ 65536 → (runForm rs).length < f →
    rgt (pre ++ runForm rs) N f pre.length out = (out ++ expand rs, 0) := by
  intro rs
  induction rs with
  | nil =>
    intro pre out f N _ hN _ hf
    obtain ⟨f, rfl⟩ : ∃ m, f = m + 1 := ⟨f - 1, by omega⟩
    have e : runForm [] = [] := rfl
    have e2 : expand [] = [] := rfl
    rw [e2, List.length_nil] at hN
    rw [rgt, if_neg (by omega), e, List.append_nil, if_neg (by omega), e2, List.append_nil]
  | cons y r ih =>
    obtain ⟨x, k⟩ := y
    intro pre out f N h hN hN2 hf
    obtain ⟨h1, hk, hx, hr⟩ := h
    rw [expand_cons, List.length_append, List.length_replicate] at hN
    rw [runForm_cons, List.length_append, List.length_append] at hf
    have hp1 : 0 < (leb (k - 1)).length := by rw [leb]; split <;> simp
    obtain ⟨f, rfl⟩ : ∃ m, f = m + 1 := ⟨f - 1, by omega⟩
    have hl : ¬ lastIs out x := h1
    have := ih (pre ++ (leb (k - 1) ++ leb (zz x).toNat)) (out ++ List.replicate k x) f N (by rw [List.getLast?_append, List.getLast?_replicate, if_neg (by omega)]; exact hr) (by rw [List.length_append, List.length_replicate]; omega) hN2 (by omega)
    rw [rgt, if_pos (by omega), runForm_cons, rone_put hx (by omega)]
    simp only [ne_eq, not_true_eq_false, if_false]
    rw [if_neg (by omega), zag_zz hx.1 hx.2, if_neg hl, show k - 1 + 1 = k by omega]
    rw [List.length_append, List.length_append, List.append_assoc, List.append_assoc, ← Nat.add_assoc] at this
    rw [this, expand_cons, List.append_assoc]
theorem rgt_back {b : List Int} (hw : ∀ x ∈ b, 0 ≤ x ∧ x < 256) (N : Nat) : ∀ (f a : Nat) (out z : List Int), out.length ≤ N → a ≤ b.length → b.length - a < f → rgt b N f a out = (z, 0) →
    ∃ rs, okr out.getLast? rs ∧ z = out ++ expand rs ∧ z.length = N ∧ b.drop a = runForm rs := by
  intro f
  induction f with
  | zero => intro a out z _ _ h; omega
  | succ f ih =>
    intro a out z ho ha hf h
    rw [rgt] at h
    by_cases hlt : out.length < N
    · rw [if_pos hlt] at h
      rcases rone_cases hw a ha with ⟨x, hx, hs, hr⟩ | ⟨v, m, x, hx, hs, hv, h2, g, hr⟩ | ⟨v, m, v2, m2, hs, hv, h2, g, gv, g2, g3, hr⟩
      · have hx0 : x ≠ 0 := by omega
        rw [hr, if_pos hx0] at h
        simp only [Prod.mk.injEq] at h
        exact absurd h.2 hx0
      · have hx0 : x ≠ 0 := by omega
        rw [hr, if_pos hx0] at h
        simp only [Prod.mk.injEq] at h
        exact absurd h.2 hx0
      · rw [hr] at h
        simp only [ne_eq, not_true_eq_false, if_false] at h
        by_cases h5 : N ≤ out.length + v
        · rw [if_pos h5] at h; simp at h
        · rw [if_neg h5] at h
          by_cases h4 : lastIs out (zag v2)
          · rw [if_pos h4] at h; simp at h
          · rw [if_neg h4] at h
            obtain ⟨rs, r1, r2, r3, r4⟩ := ih (a + m + m2) _ z (by rw [List.length_append, List.length_replicate]; omega) g2 (by omega) h
            rw [List.getLast?_append, List.getLast?_replicate, if_neg (by omega)] at r1
            obtain ⟨w1, e1, e2, _, _⟩ := leb_sh (b.drop a) 0 0 v m (drop_bytes hw a) hs
            obtain ⟨w2, f1, f2, _, _⟩ := leb_sh (b.drop (a + m)) 0 0 v2 m2 (drop_bytes hw _) g
            rw [Nat.pow_zero, Nat.mul_one, Nat.zero_add] at e2 f2
            subst e2 f2
            refine ⟨(zag v2, v + 1) :: rs, ⟨h4, by omega, zag_range gv, r1⟩, by rw [r2, expand_cons, List.append_assoc], r3, ?_⟩
            rw [e1, List.drop_drop, Nat.sub_zero, f1, List.drop_drop, Nat.sub_zero, r4, runForm_cons, zz_zag, Nat.add_sub_cancel]
    · rw [if_neg hlt] at h
      by_cases h1 : a < b.length
      · rw [if_pos h1] at h; simp at h
      · rw [if_neg h1] at h
        simp only [Prod.mk.injEq, and_true] at h
        exact ⟨[], trivial, by rw [← h]; simp [expand], by rw [← h]; omega, by rw [List.drop_of_length_le (by omega)]; rfl⟩

theorem leb_bytes : ∀ (w : Nat), ∀ x ∈ leb w, 0 ≤ x ∧ x < 256 := by
  intro w
  induction w using Nat.strongRecOn with
  | _ w ih =>
  intro x hx
  by_cases hv : w < 128
  · rw [leb_small hv] at hx; simp at hx; omega
  · rw [leb_big hv] at hx
    rcases List.mem_cons.1 hx with rfl | hx
    · omega
    · exact ih (w / 128) (by omega) x hx
theorem run_bytes (r : List (Int × Nat)) : ∀ x ∈ runForm r, 0 ≤ x ∧ x < 256 := by
  intro x hx
  obtain ⟨y, _, hy⟩ := List.mem_flatMap.1 hx
  rcases List.mem_append.1 hy with h | h
  · exact leb_bytes _ x h
  · exact leb_bytes _ x h
theorem runs_len (l : List Int) : (runsOf l).length ≤ l.length := by
  induction l with
  | nil => exact Nat.le_refl _
  | cons x l ih =>
    rw [runsOf]
    split
    · rename_i he; rw [he] at ih; simp
    · rename_i y k r he
      rw [he] at ih
      split
      · simp only [List.length_cons] at ih ⊢; omega
      · simp only [List.length_cons] at ih ⊢; omega
theorem form_len : ∀ (r : List (Int × Nat)), okr none r ∨ (∃ p, okr p r) → (∀ y ∈ r, y.2 ≤ 65536) → (runForm r).length ≤ 20 * r.length := by
  intro r
  induction r with
  | nil => intro _ _; exact Nat.zero_le _
  | cons y r ih =>
    obtain ⟨x, k⟩ := y
    intro h hk
    obtain ⟨p, h⟩ : ∃ p, okr p ((x, k) :: r) := by rcases h with h | h; exact ⟨_, h⟩; exact h
    obtain ⟨_, _, hx, hr⟩ := h
    have hz := zz_range hx.1 hx.2
    have hk0 := hk (x, k) (by simp)
    have h1 := leb_length10 (v := k - 1) (by have : k ≤ 65536 := hk0; omega)
    have h2 := leb_length10 (v := (zz x).toNat) (by omega)
    have := ih (.inr ⟨_, hr⟩) (fun y hy => hk y (by simp [hy]))
    rw [runForm_cons, List.length_append, List.length_append, List.length_cons]
    omega
theorem runsput_some (l : List Int) (hl : l.length ≤ 65536) (hw : ∀ x ∈ l, -9223372036854775808 ≤ x ∧ x ≤ 9223372036854775807) : runs_Put.f l = some (runForm (runsOf l), 0) := by
  unfold runs_Put.f; rw [if_neg (by omega), if_pos hw]
theorem expand_mem : ∀ (rs : List (Int × Nat)) (p : Option Int), okr p rs → ∀ x ∈ expand rs, -9223372036854775808 ≤ x ∧ x ≤ 9223372036854775807 := by
  intro rs
  induction rs with
  | nil => intro _ _ x hx; simp [expand] at hx
  | cons y r ih =>
    obtain ⟨z, k⟩ := y
    intro p h x hx
    obtain ⟨_, _, hz, hr⟩ := h
    rw [expand_cons] at hx
    rcases List.mem_append.1 hx with h | h
    · rw [(List.mem_replicate.1 h).2]; exact hz
    · exact ih _ hr x h
theorem rback_tail (b : List Int) (hb : b.length ≤ 500) (hw : ∀ x ∈ b, 0 ≤ x ∧ x < 256) (n : Int) (_ : n ≤ 3000 ∨ 65536 < n) :
    Ev (fun k => (runs_Get.f k b n).bind fun bt167 => (if bt167.2 = 0 then ((runs_Put.f bt167.1).bind fun bt171 => (if bt171.2 = 0 then ((estreatref01_Same.f k bt171.1 b).bind fun t175 => (if t175 = true then ((estreatlaw09_awake.f k).bind fun t176 => (some t176)) else (some false))) else (some false))) else ((estreatlaw09_awake.f k).bind fun t177 => (some t177)))) true := by
  refine Ev.bind (nrget_f hw (by omega) n) ?_
  by_cases h : (rgetv b n).2 = 0
  · simp only [if_pos h]
    have hn : ¬ (n < 0 ∨ n > 65536) := fun hn => by unfold rgetv at h; rw [if_pos hn] at h; simp at h
    have hg : rgetv b n = rgt b n.toNat (b.length + 1) 0 [] := by unfold rgetv; rw [if_neg hn]
    obtain ⟨rs, r1, r2, r3, r4⟩ := rgt_back hw n.toNat (b.length + 1) 0 [] (rgetv b n).1 (Nat.zero_le _) (by omega) (by omega) (by rw [← hg, ← h])
    rw [List.nil_append] at r2
    rw [List.drop_zero] at r4
    have hz := expand_mem rs _ r1
    rw [← r2] at hz
    have hput := runsput_some (rgetv b n).1 (by omega) hz
    rw [show runsOf (rgetv b n).1 = rs by rw [r2]; exact runsOf_expand rs _ r1, ← r4] at hput
    rw [hput]
    refine Ev.bind (Ev.now _) ?_
    simp only [if_true]
    refine Ev.bind (a := true) ⟨b.length + 1, fun k hk => by
      have := same_f b b (by omega) k (by omega)
      simpa using this⟩ ?_
    simp only [if_true]
    exact Ev.bind runsawake (Ev.now _)
  · simp only [if_neg h]
    exact Ev.bind runsawake (Ev.now _)
theorem fill_l0 (l b : List Int) (n v : Int) (hl : l.length ≤ 300) (hb : b.length ≤ 500) (hw : ∀ x ∈ b, 0 ≤ x ∧ x < 256) (hn3 : n ≤ 3000 ∨ 65536 < n) : ∀ (d i : Nat), l.length = i + d →
    Ev (fun k => estreatlaw09_RunsBack.l0 k l b n v (List.replicate i v ++ List.replicate d 0) i) true := by
  intro d
  induction d with
  | zero =>
    intro i hi
    rw [List.replicate_zero, List.append_nil]
    have hc : runs_Count.f (List.replicate i v) = some (mn 1 (l.length : Int)) := by
      rw [count_some _ (by rw [List.length_replicate]; omega)]
      congr 1
      cases i with
      | zero =>
        have e : (l.length : Int) = 0 := by omega
        rw [e]
        rfl
      | succ j =>
        have := runsOf_run v [] (fun _ _ h => by cases h) j
        rw [List.append_nil] at this
        rw [this, show runsOf [] = [] from rfl]
        unfold mn
        split <;> simp only [List.length_singleton] <;> omega
    refine Ev.step (f := fun k => _) (fun k => by simp only [estreatlaw09_RunsBack.l0]; rw [if_neg (by omega), hc, Option.bind_some, if_pos rfl]) ?_
    exact rback_tail b hb hw n hn3
  | succ d ih =>
    intro i hi
    refine Ev.step (fun k => ?_) (ih (i + 1) (by omega))
    simp only [estreatlaw09_RunsBack.l0]
    rw [if_pos (by omega), if_pos (by omega), if_pos (by simp; omega), w64 (by omega) (by omega), Int.toNat_natCast]
    have e : (List.replicate i v ++ List.replicate (d + 1) 0).set i v = List.replicate (i + 1) v ++ List.replicate d 0 := by
      rw [List.set_append_right _ _ (by simp), List.length_replicate, Nat.sub_self, List.replicate_succ, List.set_cons_zero, List.replicate_succ', List.append_assoc]; rfl
    rw [e]
    rfl
theorem RunsBack : estreatlaw09_RunsBack.Pure := by
  intro l b n v hm hs hw hm2 hs2 hw2 _ _
  have hl' : ∀ x ∈ l, -9223372036854775808 ≤ x ∧ x ≤ 9223372036854775807 := fun x hx => wf_i64 (hw x hx)
  have hb' : ∀ x ∈ b, 0 ≤ x ∧ x < 256 := fun x hx => wf_u8 (hw2 x hx)
  refine Ev.rounds ?_
  unfold estreatlaw09_RunsBack.f
  have hout : Ev (fun k => estreatlaw09_RunsBack.j0 k l b n v true) true := by
    refine Ev.step (f := fun k => _) (fun k => by simp only [estreatlaw09_RunsBack.j0]; rw [if_pos trivial]) ?_
    exact Ev.bind runsawake (Ev.now _)
  have hin : l.length ≤ 300 → b.length ≤ 500 → n ≤ 3000 ∨ 65536 < n → Ev (fun k => estreatlaw09_RunsBack.j0 k l b n v false) true := by
    intro hl hb hn3
    obtain ⟨o1, o2⟩ := runsOf_okr l hl'
    have hk : ∀ y ∈ runsOf l, y.2 ≤ 65536 := fun y hy => by have := (runsOf_ok l hl' y hy).2.2; omega
    have hfl := form_len (runsOf l) (.inl o1) hk
    have hrl := runs_len l
    have hg := rgt_runs (runsOf l) [] [] ((runForm (runsOf l)).length + 1) l.length o1 (by rw [o2]; simp) (by omega) (by omega)
    rw [List.nil_append, List.nil_append, o2, List.length_nil] at hg
    have hgv : rgetv (runForm (runsOf l)) l.length = (l, 0) := by
      unfold rgetv
      rw [if_neg (by omega), Int.toNat_natCast, hg]
    refine Ev.step (f := fun k => _) (fun k => by simp only [estreatlaw09_RunsBack.j0]; rw [if_neg (by decide), runsput_some l (by omega) hl', Option.bind_some]) ?_
    have e0 := nrget_f (run_bytes (runsOf l)) (by omega) (l.length : Int)
    rw [hgv] at e0
    refine Ev.bind e0 ?_
    refine Ev.bind (same8_f _ _ (show l.length < 9223372036854775807 by omega)) ?_
    simp only [decide_true, if_true]
    rw [count_some l (by omega)]
    simp only [Option.bind_some]
    rw [decide_eq_false (by omega)]
    refine Ev.step (f := fun k => _) (fun k => by simp only [estreatlaw09_RunsBack.j1]; rw [if_neg (by decide), if_pos (by omega), if_pos (by omega), Int.toNat_natCast]) ?_
    have := fill_l0 l b n v hl hb hb' hn3 l.length 0 (by omega)
    rw [List.replicate_zero, List.nil_append] at this
    exact this
  by_cases c : (l.length : Int) > 300
  · simp only [if_pos c]; exact hout
  · simp only [if_neg c]
    by_cases c1 : (b.length : Int) > 500
    · simp only [if_pos c1]; exact hout
    · simp only [if_neg c1]
      by_cases c2 : n > 3000
      · simp only [if_pos c2]
        by_cases c3 : n ≤ 65536
        · rw [decide_eq_true c3]; exact hout
        · rw [decide_eq_false c3]; exact hin (by omega) (by omega) (.inr (by omega))
      · simp only [if_neg c2]; exact hin (by omega) (by omega) (.inl (by omega))

end Go.Proofs.YtjmhfbgpebgcmaaDoor.Pure
