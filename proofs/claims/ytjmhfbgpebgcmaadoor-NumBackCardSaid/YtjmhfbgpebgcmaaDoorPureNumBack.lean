/- What estreatlaw01.NumBack computes is true for any numbers and bytes. -/
import Derived.Test.YtjmhfbgpebgcmaaDoorPNumBackx4
import Derived.Lib.Zigzag
import Derived.Lib.BitFns
namespace Go.Proofs.YtjmhfbgpebgcmaaDoor.Pure
open Go.RowKit Go.Proofs.YtjmhfbgpebgcmaaDoor.PNumBack Go.Proofs.YtjmhfbgpebgcmaaDoorW.PrintWords Go.Proofs.YtjmhfbgpebgcmaaDoorW.PrintLast Go.Proofs.YtjmhfbgpebgcmaaDoorW.PrintMore

/-! words of this session: plain facts on numbers and lists -/
theorem w64 {n : Int} (h0 : -9223372036854775808 ≤ n) (h1 : n ≤ 9223372036854775807) : wrap64 n = n := by unfold wrap64; omega
theorem u64w (n : Int) : IntKind.u64.wrap n = n % 18446744073709551616 := by simp [IntKind.wrap, IntKind.bits, IntKind.signed]
theorem u64w_id {n : Int} (h0 : 0 ≤ n) (h1 : n < 18446744073709551616) : IntKind.u64.wrap n = n := by rw [u64w]; omega
theorem rd_nat (xs : List Int) (i : Nat) : rd xs (i : Int) = xs.getD i 0 := by simp [rd]
theorem rd_get {xs : List Int} {i : Nat} (h : i < xs.length) : rd xs (i : Int) = xs[i] := by simp [rd, h]
theorem wf_i64 {x : Int} (h : (Lit.int .i64 x).wf = true) : -9223372036854775808 ≤ x ∧ x ≤ 9223372036854775807 := by
  simp [Lit.wf, IntKind.min, IntKind.max, IntKind.signed, IntKind.bits] at h; omega
theorem wf_u64 {x : Int} (h : (Lit.int .u64 x).wf = true) : 0 ≤ x ∧ x < 18446744073709551616 := by
  simp [Lit.wf, IntKind.min, IntKind.max, IntKind.signed, IntKind.bits] at h; omega
theorem wf_u8 {x : Int} (h : (Lit.int .u8 x).wf = true) : 0 ≤ x ∧ x < 256 := by
  simp [Lit.wf, IntKind.min, IntKind.max, IntKind.signed, IntKind.bits] at h; omega
theorem dropc {α : Type} (l : List α) (i : Nat) (h : i < l.length) : l.drop i = l[i] :: l.drop (i + 1) := List.drop_eq_getElem_cons h

/-! estreatref01.Same: are two lists one? -/
theorem same_l0 (xs ys : List Int) (hl : xs.length = ys.length) (hb : xs.length < 9223372036854775807) : ∀ (d k i : Nat), xs.length = i + d → d < k → estreatref01_Same.l0 k xs ys i = some (decide (xs.drop i = ys.drop i)) := by
  intro d
  induction d with
  | zero =>
    intro k i hd hk
    obtain ⟨k, rfl⟩ : ∃ m, k = m + 1 := ⟨k - 1, by omega⟩
    simp only [estreatref01_Same.l0]; rw [if_neg (by omega), List.drop_of_length_le (by omega), List.drop_of_length_le (by omega)]; simp
  | succ d ih =>
    intro k i hd hk
    obtain ⟨k, rfl⟩ : ∃ m, k = m + 1 := ⟨k - 1, by omega⟩
    simp only [estreatref01_Same.l0]
    have := ih k (i + 1) (by omega) (by omega)
    simp only [Int.natCast_add, Int.natCast_one] at this
    rw [if_pos (by omega), if_pos (by omega), if_pos (by omega), rd_get (by omega), rd_get (by omega), w64 (by omega) (by omega), this]
    have ex : xs.drop i = xs[i] :: xs.drop (i + 1) := List.drop_eq_getElem_cons (by omega)
    have ey : ys.drop i = ys[i] :: ys.drop (i + 1) := List.drop_eq_getElem_cons (by omega)
    rw [ex, ey]
    by_cases h : xs[i] = ys[i]
    · rw [if_pos h, h]; simp only [List.cons.injEq, true_and]
    · rw [if_neg h, decide_eq_false]; simp only [List.cons.injEq, h, false_and, not_false_eq_true]
theorem same_f (xs ys : List Int) (hb : xs.length < 9223372036854775807) : ∀ k, xs.length < k → estreatref01_Same.f k xs ys = some (decide (xs = ys)) := by
  intro k hk
  unfold estreatref01_Same.f
  by_cases h : xs.length = ys.length
  · rw [if_pos (by omega)]
    have := same_l0 xs ys h hb xs.length k 0 (by omega) hk
    simpa using this
  · rw [if_neg (by omega)]
    have : xs ≠ ys := fun e => h (by rw [e])
    simp [this]

/-! the short number of a number, and what puts it -/
def leb (v : Nat) : List Int := if h : v < 128 then [(v : Int)] else ((v % 128 + 128 : Nat) : Int) :: leb (v / 128)
theorem leb_small {v : Nat} (h : v < 128) : leb v = [(v : Int)] := by rw [leb, dif_pos h]
theorem leb_big {v : Nat} (h : ¬ v < 128) : leb v = ((v % 128 + 128 : Nat) : Int) :: leb (v / 128) := by rw [leb, dif_neg h]
theorem leb_length : ∀ (n v : Nat), v < 128 ^ (n + 1) → (leb v).length ≤ n + 1 := by
  intro n
  induction n with
  | zero => intro v h; rw [leb_small (by simpa using h)]; simp
  | succ n ih =>
    intro v h
    by_cases hv : v < 128
    · rw [leb_small hv]; simp
    · rw [leb_big hv, List.length_cons]
      have := ih (v / 128) (by rw [Nat.div_lt_iff_lt_mul (by decide)]; rw [Nat.pow_succ] at h; omega)
      omega
theorem p128 : (18446744073709551616 : Nat) < 128 ^ (9 + 1) := by decide
theorem leb_length10 {v : Nat} (h : v < 18446744073709551616) : (leb v).length ≤ 10 := leb_length 9 v (Nat.lt_trans h p128)

theorem putvar_l0 : ∀ (n k v : Nat) (b : List Int), v < 128 ^ (n + 1) → n < k → b.length + n < 140737488355328 → num_PutVar.l0 k b v = some (b ++ leb v) := by
  intro n
  induction n with
  | zero =>
    intro k v b hv hk hb
    obtain ⟨k, rfl⟩ : ∃ m, k = m + 1 := ⟨k - 1, by omega⟩
    simp only [num_PutVar.l0]
    rw [if_neg (by omega), if_pos (by omega), leb_small (by omega)]
    rw [Int.emod_eq_of_lt (by omega) (by omega)]
  | succ n ih =>
    intro k v b hv hk hb
    obtain ⟨k, rfl⟩ : ∃ m, k = m + 1 := ⟨k - 1, by omega⟩
    simp only [num_PutVar.l0]
    by_cases h : v < 128
    · rw [if_neg (by omega), if_pos (by omega), leb_small h, Int.emod_eq_of_lt (by omega) (by omega)]
    · rw [if_pos (by omega), if_pos (by omega), Lib.u8_or128_any _ (by omega) (by omega), leb_big h]
      have e : (v : Int) / 128 = ((v / 128 : Nat) : Int) := by omega
      rw [e, ih k (v / 128) _ (by rw [Nat.div_lt_iff_lt_mul (by decide)]; rw [Nat.pow_succ] at hv; omega) (by omega) (by simp; omega)]
      have e2 : (v : Int) % 256 % 128 + 128 = ((v % 128 + 128 : Nat) : Int) := by omega
      rw [e2]; simp
theorem putvar_f {v : Int} {b : List Int} {k : Nat} (h0 : 0 ≤ v) (h1 : v < 18446744073709551616) (hk : 10 ≤ k) (hb : b.length < 140737488000000) : num_PutVar.f k b v = some (b ++ leb v.toNat) := by
  obtain ⟨n, rfl⟩ := Int.eq_ofNat_of_zero_le h0
  unfold num_PutVar.f
  exact putvar_l0 9 k n b (Nat.lt_trans (by omega) p128) (by omega) (by omega)

/-! num.Zig -/
def zz (x : Int) : Int := if 0 ≤ x then 2 * x else -2 * x - 1
theorem zz_range {x : Int} (h0 : -9223372036854775808 ≤ x) (h1 : x ≤ 9223372036854775807) : 0 ≤ zz x ∧ zz x < 18446744073709551616 := by
  unfold zz; split <;> omega
theorem zig_f {x : Int} (h0 : -9223372036854775808 ≤ x) (h1 : x ≤ 9223372036854775807) : num_Zig.f x = some (zz x) := by
  unfold num_Zig.f zz
  by_cases h : 0 ≤ x
  · rw [if_pos h]
    have e1 : IntKind.u64.wrap (IntKind.u64.wrap x * 2) = (((2 * x).toNat : Nat) : Int) := by rw [u64w, u64w]; omega
    have e2 : IntKind.u64.wrap (x / 9223372036854775808) = ((0 : Nat) : Int) := by rw [u64w]; omega
    rw [e1, e2, bits_xor_u64_nat _ _ (by omega) (by omega), Nat.xor_zero]
    congr 1; omega
  · rw [if_neg h]
    have e1 : IntKind.u64.wrap (IntKind.u64.wrap x * 2) = (((2 * x + 18446744073709551616).toNat : Nat) : Int) := by rw [u64w, u64w]; omega
    have e2 : IntKind.u64.wrap (x / 9223372036854775808) = ((2 ^ 64 - 1 : Nat) : Int) := by rw [u64w]; omega
    rw [e1, e2, bits_xor_u64_nat _ _ (by omega) (by decide), Nat.xor_comm, Lib.xor_ones64 _ (by omega)]
    congr 1; omega

/-! the short number that begins bytes: how many bytes it has, or an error -/
def sh : List Int → Nat → Nat → Int × Int × Int
  | [], _, _ => (0, 0, 2)
  | b :: l, n, v =>
    if 9 < n ∨ (n = 9 ∧ 1 < b.toNat % 128) ∨ (0 < n ∧ b = 0) then (0, 0, 4)
    else if b < 128 then (((v + b.toNat % 128 * 128 ^ n : Nat) : Int), ((n + 1 : Nat) : Int), 0)
    else sh l (n + 1) (v + b.toNat % 128 * 128 ^ n)
theorem or_add (v x n : Nat) (h : v < 2 ^ n) : v ||| (x * 2 ^ n) = v + x * 2 ^ n := by
  rw [Nat.or_comm, Nat.mul_comm x, ← Nat.two_pow_add_eq_or_of_lt h, Nat.add_comm]
theorem shl64s {x n : Nat} (hn : n ≤ 64) (h : x * 2 ^ n < 18446744073709551616) : shl .u64 (x : Int) n = ((x * 2 ^ n : Nat) : Int) := by
  unfold shl
  rw [Int.toNat_natCast, show IntKind.u64.bits = 64 from rfl, Nat.min_eq_left hn, show ((x : Int) * 2 ^ n) = ((x * 2 ^ n : Nat) : Int) by simp, u64w_id (Int.natCast_nonneg _) (by omega)]
theorem sh_bound {c n v : Nat} (hn : n ≤ 9) (h9 : ¬ (n = 9 ∧ 1 < c % 128)) (hv : v < 128 ^ n) : v + c % 128 * 128 ^ n < 18446744073709551616 ∧ v + c % 128 * 128 ^ n < 128 ^ (n + 1) := by
  have h9' : n = 9 → c % 128 ≤ 1 := fun h => by omega
  clear h9
  rcases (show n = 0 ∨ n = 1 ∨ n = 2 ∨ n = 3 ∨ n = 4 ∨ n = 5 ∨ n = 6 ∨ n = 7 ∨ n = 8 ∨ n = 9 by omega) with rfl | rfl | rfl | rfl | rfl | rfl | rfl | rfl | rfl | rfl <;> simp only [Nat.reducePow, Nat.reduceAdd] at hv ⊢ <;> first | omega | (have := h9' rfl; omega)
theorem sh_or {c n v : Nat} (hn : n ≤ 9) (h9 : ¬ (n = 9 ∧ 1 < c % 128)) (hv : v < 128 ^ n) : Go.bits .or .u64 (v : Int) (shl .u64 ((c % 128 : Nat) : Int) (IntKind.u64.wrap ((7 * n : Nat) : Int))) = ((v + c % 128 * 128 ^ n : Nat) : Int) := by
  have hb := (sh_bound hn h9 hv).1
  have e : 128 ^ n = 2 ^ (7 * n) := by rw [Nat.pow_mul]
  rw [u64w_id (by omega) (by omega)]
  rw [e] at hb hv ⊢
  rw [shl64s (by omega) (Nat.lt_of_le_of_lt (Nat.le_add_left _ _) hb), bits_or_u64_nat _ _ (Nat.lt_of_le_of_lt (Nat.le_add_right _ _) hb) (Nat.lt_of_le_of_lt (Nat.le_add_left _ _) hb), or_add _ _ _ hv]
theorem and128 : ∀ c : Nat, c < 256 → (Go.bits .and .u8 (c : Int) 128 = 0 ↔ c < 128) := by decide +kernel
theorem and127' : ∀ c : Nat, c < 256 → Go.bits .and .u8 (c : Int) 127 = ((c % 128 : Nat) : Int) := by decide +kernel
theorem and127 {c : Nat} (h : c < 256) : IntKind.u64.wrap (Go.bits .and .u8 (c : Int) 127) = ((c % 128 : Nat) : Int) := by
  rw [and127' c h, u64w_id (by omega) (by omega)]
theorem shr9 {c : Nat} : (shr .u64 ((c % 128 : Nat) : Int) (IntKind.u64.wrap (wrap64 (64 - ((7 * 9 : Nat) : Int)))) != 0) = decide (1 < c % 128) := by
  have e : IntKind.u64.wrap (wrap64 (64 - ((7 * 9 : Nat) : Int))) = 1 := by rw [w64 (by omega) (by omega), u64w_id (by omega) (by omega)]; rfl
  rw [e]; unfold shr
  rw [show (2 : Int) ^ min (1 : Int).toNat IntKind.u64.bits = 2 by decide]
  by_cases h : 1 < c % 128
  · rw [decide_eq_true h, bne_iff_ne]; omega
  · rw [decide_eq_false h]; simp only [bne_eq_false_iff_eq]; omega
theorem short_at (L : List Int) (_ : L.length < 4611686018427387904) (k n v c : Nat) (h : n < L.length) (hc : L[n] = (c : Int)) (hc2 : c < 256) (hn : n ≤ 9) :
    num_short.l0 (k + 1) L v n ((7 * n : Nat) : Int) = num_short.j1 k L v ((n + 1 : Nat) : Int) ((7 * n : Nat) : Int) c ((c % 128 : Nat) : Int) (decide (n = 9 ∧ 1 < c % 128)) := by
  have hrd : rd L (n : Int) = (c : Int) := by rw [rd_get h, hc]
  simp only [num_short.l0]
  rw [if_neg (by omega), if_pos (by omega), if_pos (by omega), if_neg (by omega), hrd, and127 hc2, w64 (n := (n : Int) + 1) (by omega) (by omega), w64 (n := ((7 * n : Nat) : Int) + 7) (by omega) (by omega)]
  rw [show ((n : Int) + 1) = ((n + 1 : Nat) : Int) by omega]
  by_cases h9 : n = 9
  · subst h9
    rw [if_pos (by omega), if_pos (by rw [u64w]; omega), shr9]
    simp
  · rw [if_neg (by omega), decide_eq_false (by omega)]
theorem short_l0 (L : List Int) (hw : ∀ x ∈ L, 0 ≤ x ∧ x < 256) (hl : L.length < 4611686018427387904) : ∀ (d n v : Nat), L.length = n + d → n ≤ 10 → v < 128 ^ n → Ev (fun k => num_short.l0 k L v n ((7 * n : Nat) : Int)) (sh (L.drop n) n v) := by
  intro d
  induction d with
  | zero =>
    intro n v hd hn hv
    rw [List.drop_of_length_le (by omega)]
    exact Ev.step (f := fun _ => some (0, 0, 2)) (fun k => by simp only [num_short.l0]; rw [if_pos (by omega)]) (Ev.now _)
  | succ d ih =>
    intro n v hd hn hv
    have hlt : n < L.length := by omega
    obtain ⟨c, hc, hc2⟩ : ∃ c : Nat, L[n] = (c : Int) ∧ c < 256 := ⟨L[n].toNat, by have := hw _ (List.getElem_mem hlt); omega, by have := hw _ (List.getElem_mem hlt); omega⟩
    have hrd : rd L (n : Int) = (c : Int) := by rw [rd_get hlt, hc]
    rw [dropc L n hlt, hc]
    simp only [sh, Int.toNat_natCast]
    by_cases hN : 9 < n
    · rw [if_pos (.inl hN)]
      refine Ev.step (f := fun k => num_short.j1 k L v (wrap64 (n + 1)) ((7 * n : Nat) : Int) (rd L n) (IntKind.u64.wrap (Go.bits .and .u8 (rd L n) 127)) (decide ((7 * n : Nat) ≥ (64 : Int)))) (fun k => by simp only [num_short.l0]; rw [if_neg (by omega), if_pos (by omega), if_pos (by omega), if_pos (by omega)]) ?_
      refine Ev.step (f := fun _ => some (0, 0, 4)) (fun k => by simp only [num_short.j1]; rw [if_pos (decide_eq_true (by omega))]) (Ev.now _)
    · refine Ev.step (short_at L hl · n v c hlt hc hc2 (by omega)) ?_
      by_cases h9 : n = 9 ∧ 1 < c % 128
      · rw [if_pos (.inr (.inl h9)), decide_eq_true h9]
        exact Ev.step (f := fun _ => some (0, 0, 4)) (fun k => by simp only [num_short.j1]; rw [if_pos trivial]) (Ev.now _)
      · rw [decide_eq_false h9]
        refine Ev.step (f := fun k => num_short.j2 k L v ((n + 1 : Nat) : Int) ((7 * n : Nat) : Int) c ((c % 128 : Nat) : Int) (decide (0 < n ∧ c = 0))) (fun k => by
          simp only [num_short.j1]
          rw [if_neg (by decide)]
          by_cases h0 : c = 0
          · rw [if_pos (by omega)]; congr 1; exact decide_eq_decide.mpr (by omega)
          · rw [if_neg (by omega), decide_eq_false (by omega)]) ?_
        by_cases h0 : 0 < n ∧ c = 0
        · rw [if_pos (.inr (.inr ⟨h0.1, by omega⟩)), decide_eq_true h0]
          exact Ev.step (f := fun _ => some (0, 0, 4)) (fun k => by simp only [num_short.j2]; rw [if_pos trivial]) (Ev.now _)
        · rw [if_neg (by rintro (h | h | h); exact hN h; exact h9 h; exact h0 ⟨h.1, by omega⟩), decide_eq_false h0]
          have hor := sh_or (c := c) (n := n) (v := v) (by omega) h9 hv
          have hbd := sh_bound (c := c) (n := n) (v := v) (by omega) h9 hv
          have hu : IntKind.u64.wrap ((7 * n : Nat) : Int) = ((7 * n : Nat) : Int) := u64w_id (by omega) (by omega)
          generalize v + c % 128 * 128 ^ n = v2 at hor hbd ⊢
          by_cases h8 : c < 128
          · rw [if_pos (by omega)]
            exact Ev.step (f := fun _ => some ((v2 : Int), ((n + 1 : Nat) : Int), 0)) (fun k => by simp only [num_short.j2]; rw [if_neg (by decide), if_pos (by rw [hu]; exact Int.natCast_nonneg _), if_pos ((and128 c hc2).2 h8), hor]) (Ev.now _)
          · rw [if_neg (by omega)]
            refine Ev.step (f := fun k => num_short.l0 k L v2 ((n + 1 : Nat) : Int) ((7 * (n + 1) : Nat) : Int)) (fun k => by
              simp only [num_short.j2]
              rw [if_neg (by decide), if_pos (by rw [hu]; exact Int.natCast_nonneg _), if_neg (fun h => h8 ((and128 c hc2).1 h)), hor, w64 (by omega) (by omega)]
              rw [show ((7 * n : Nat) : Int) + 7 = ((7 * (n + 1) : Nat) : Int) by omega]) ?_
            exact ih (n + 1) v2 (by omega) (by omega) hbd.2
theorem short_f (L : List Int) (hw : ∀ x ∈ L, 0 ≤ x ∧ x < 256) (hl : L.length < 4611686018427387904) : Ev (fun k => num_short.f k L) (sh L 0 0) := by
  have := short_l0 L hw hl L.length 0 0 (by omega) (by omega) (by decide)
  rw [List.drop_zero] at this
  exact Ev.congr (fun k => by unfold num_short.f; rfl) this

/-! num.Zag, estreatref01.Zag -/
def zag (v : Nat) : Int := if v % 2 = 0 then ((v / 2 : Nat) : Int) else -((v / 2 : Nat) : Int) - 1
theorem xor_i64_zero (x : Nat) (hx : x < 9223372036854775808) : Go.bits .xor .i64 (x : Int) 0 = (x : Int) := by
  show IntKind.i64.wrap ((BitVec.ofInt 64 (x : Int) ^^^ BitVec.ofInt 64 0).toNat : Int) = _
  have h2 : (BitVec.ofInt 64 (x : Int)).toNat = x := by
    rw [BitVec.ofInt_natCast, BitVec.toNat_ofNat]; exact Nat.mod_eq_of_lt (by omega)
  rw [BitVec.toNat_xor, h2, show (BitVec.ofInt 64 0).toNat = 0 by decide, Nat.xor_zero, IntKind.wrap_i64]; omega
theorem xor_i64_ones (x : Nat) (hx : x < 9223372036854775808) : Go.bits .xor .i64 (x : Int) (-1) = -(x : Int) - 1 := by
  rw [← Lib.i64_not x hx]
  show IntKind.i64.wrap ((BitVec.ofInt 64 (x : Int) ^^^ BitVec.ofInt 64 (-1)).toNat : Int) = IntKind.i64.wrap ((BitVec.ofInt 64 (-1) ^^^ BitVec.ofInt 64 (x : Int)).toNat : Int)
  rw [BitVec.xor_comm]
theorem zag_f (v : Nat) (hv : v < 18446744073709551616) : num_Zag.f v = some (zag v) := by
  unfold num_Zag.f zag
  have h1 : wrap64 ((v : Int) / 2) = ((v / 2 : Nat) : Int) := by rw [w64 (by omega) (by omega)]; omega
  rw [h1, Lib.u64_and1 _ (by omega) (by omega)]
  by_cases h : v % 2 = 0
  · rw [if_pos h, show ((v : Int) % 2) = 0 by omega, w64 (n := 0) (by omega) (by omega), w64 (by omega) (by omega), Int.neg_zero, xor_i64_zero _ (by omega)]
  · rw [if_neg h, show ((v : Int) % 2) = 1 by omega, w64 (n := 1) (by omega) (by omega), w64 (by omega) (by omega), xor_i64_ones _ (by omega)]
theorem zag_range {v : Nat} (hv : v < 18446744073709551616) : -9223372036854775808 ≤ zag v ∧ zag v ≤ 9223372036854775807 := by
  unfold zag; split <;> omega

/-! what Var comes to -/
theorem sh_cases : ∀ (l : List Int) (n v : Nat), (∀ x ∈ l, 0 ≤ x ∧ x < 256) → n ≤ 10 → v < 128 ^ n →
    sh l n v = (0, 0, 2) ∨ sh l n v = (0, 0, 4) ∨ ∃ v' m : Nat, sh l n v = ((v' : Int), (m : Int), 0) ∧ n < m ∧ m ≤ n + l.length ∧ v' < 18446744073709551616 := by
  intro l
  induction l with
  | nil => intro n v _ _ _; exact .inl rfl
  | cons b l ih =>
    intro n v hw hn hv
    obtain ⟨c, rfl, hc2⟩ : ∃ c : Nat, b = (c : Int) ∧ c < 256 := ⟨b.toNat, by have := hw b (by simp); omega, by have := hw b (by simp); omega⟩
    simp only [sh, Int.toNat_natCast]
    by_cases hE : 9 < n ∨ (n = 9 ∧ 1 < c % 128) ∨ (0 < n ∧ (c : Int) = 0)
    · rw [if_pos hE]; exact .inr (.inl rfl)
    · rw [if_neg hE]
      have hbd := sh_bound (c := c) (n := n) (v := v) (by omega) (by omega) hv
      generalize v + c % 128 * 128 ^ n = v2 at hbd ⊢
      by_cases h8 : (c : Int) < 128
      · rw [if_pos h8]
        exact .inr (.inr ⟨v2, n + 1, rfl, by omega, by simp only [List.length_cons]; omega, hbd.1⟩)
      · rw [if_neg h8]
        rcases ih (n + 1) v2 (fun x hx => hw x (by simp [hx])) (by omega) hbd.2 with h | h | ⟨v', m, h1, h2, h3, h4⟩
        · exact .inl h
        · exact .inr (.inl h)
        · exact .inr (.inr ⟨v', m, h1, by omega, by simp only [List.length_cons]; omega, h4⟩)
theorem drop_bytes {L : List Int} (hw : ∀ x ∈ L, 0 ≤ x ∧ x < 256) (a : Nat) : ∀ x ∈ L.drop a, 0 ≤ x ∧ x < 256 := fun x hx => hw x (List.mem_of_mem_drop hx)

theorem nvar_ok {b : List Int} (hw : ∀ x ∈ b, 0 ≤ x ∧ x < 256) (hl : b.length < 4611686018427387904) {a v m : Nat} {on : Int} (ha : a ≤ b.length) (h : sh (b.drop a) 0 0 = ((v : Int), (m : Int), 0)) (hm : a + m ≤ b.length) :
    Ev (fun k => num_Reader_Var.f k b a 0 on) ((v : Int), ((a + m : Nat) : Int), 0, on) := by
  have hs := short_f (b.drop a) (drop_bytes hw a) (by rw [List.length_drop]; omega)
  rw [h] at hs
  refine Ev.congr (f := fun k => _) (fun k => by unfold num_Reader_Var.f; rw [if_neg (by simp), if_pos ⟨Int.natCast_nonneg _, by omega⟩, Int.toNat_natCast]) (Ev.bind hs ?_)
  refine ⟨0, fun k _ => ?_⟩
  simp only [num_Reader_Fail.f, num_Reader_Fail.next, Option.bind_some]
  rw [w64 (by omega) (by omega)]
  simp
theorem nvar_err {b : List Int} (hw : ∀ x ∈ b, 0 ≤ x ∧ x < 256) (hl : b.length < 4611686018427387904) {a : Nat} {on x : Int} (ha : a ≤ b.length) (hx : x = 2 ∨ x = 4) (h : sh (b.drop a) 0 0 = (0, 0, x)) :
    Ev (fun k => num_Reader_Var.f k b a 0 on) (0, (a : Int), x, (a : Int)) := by
  have hs := short_f (b.drop a) (drop_bytes hw a) (by rw [List.length_drop]; omega)
  rw [h] at hs
  refine Ev.congr (f := fun k => _) (fun k => by unfold num_Reader_Var.f; rw [if_neg (by simp), if_pos ⟨Int.natCast_nonneg _, by omega⟩, Int.toNat_natCast]) (Ev.bind hs ?_)
  refine ⟨0, fun k _ => ?_⟩
  rcases hx with rfl | rfl
  all_goals
    simp [num_Reader_Fail.f, num_Reader_Fail.next]
    rw [w64 (by omega) (by omega)]

/-! a short number that is put is read as it was; what is read is put as it was -/
theorem pow_split (w n : Nat) : w % 128 * 128 ^ n + w / 128 * 128 ^ (n + 1) = w * 128 ^ n := by
  have e : w / 128 * 128 ^ (n + 1) = 128 * (w / 128) * 128 ^ n := by rw [Nat.pow_succ]; ac_rfl
  rw [e, ← Nat.add_mul, Nat.mod_add_div]
theorem h9_of {w n : Nat} (hb : w * 128 ^ n < 18446744073709551616) : n = 9 → w ≤ 1 := by
  rintro rfl
  simp only [Nat.reducePow] at hb
  omega
theorem sh_leb (rest : List Int) : ∀ (w n v0 : Nat), n ≤ 9 → (0 < n → 0 < w) → w * 128 ^ n < 18446744073709551616 →
    sh (leb w ++ rest) n v0 = (((v0 + w * 128 ^ n : Nat) : Int), ((n + (leb w).length : Nat) : Int), 0) := by
  intro w
  induction w using Nat.strongRecOn with
  | _ w ih =>
  intro n v0 hn h0 hb
  have h9 := h9_of hb
  have e2 := pow_split w n
  have hb' : w / 128 * 128 ^ (n + 1) < 18446744073709551616 := Nat.lt_of_le_of_lt (by rw [← e2]; exact Nat.le_add_left _ _) hb
  clear hb
  by_cases hv : w < 128
  · clear ih hb' e2
    have hE : ¬ (9 < n ∨ (n = 9 ∧ 1 < w % 128) ∨ (0 < n ∧ (w : Int) = 0)) := by
      rintro (h | h | h)
      · omega
      · have := h9 h.1; omega
      · have := h0 h.1; omega
    rw [leb_small hv, List.singleton_append]
    simp only [sh, Int.toNat_natCast]
    rw [if_neg hE, if_pos (by omega), Nat.mod_eq_of_lt hv]
    rfl
  · have hn9 : n ≠ 9 := fun h => by have := h9 h; omega
    have hih := ih (w / 128) (by omega) (n + 1) (v0 + w % 128 * 128 ^ n) (by omega) (fun _ => by omega) hb'
    rw [Nat.add_assoc, e2] at hih
    clear ih hb' e2
    have hE : ¬ (9 < n ∨ (n = 9 ∧ 1 < (w % 128 + 128) % 128) ∨ (0 < n ∧ ((w % 128 + 128 : Nat) : Int) = 0)) := by omega
    have e : (w % 128 + 128) % 128 = w % 128 := by omega
    rw [leb_big hv, List.cons_append]
    simp only [sh, Int.toNat_natCast]
    rw [if_neg hE, if_neg (by omega), e, hih, List.length_cons, show n + 1 + (leb (w / 128)).length = n + ((leb (w / 128)).length + 1) by omega]
theorem sh_trunc : ∀ (w n v0 j : Nat), n ≤ 9 → (0 < n → 0 < w) → w * 128 ^ n < 18446744073709551616 → j < (leb w).length → sh ((leb w).take j) n v0 = (0, 0, 2) := by
  intro w
  induction w using Nat.strongRecOn with
  | _ w ih =>
  intro n v0 j hn h0 hb hj
  cases j with
  | zero => rfl
  | succ j =>
    have h9 := h9_of hb
    have e2 := pow_split w n
    have hb' : w / 128 * 128 ^ (n + 1) < 18446744073709551616 := Nat.lt_of_le_of_lt (by rw [← e2]; exact Nat.le_add_left _ _) hb
    clear hb e2
    by_cases hv : w < 128
    · rw [leb_small hv] at hj; simp at hj
    · have hn9 : n ≠ 9 := fun h => by have := h9 h; omega
      rw [leb_big hv, List.length_cons] at hj
      have hih := ih (w / 128) (by omega) (n + 1) (v0 + w % 128 * 128 ^ n) j (by omega) (fun _ => by omega) hb' (by omega)
      clear ih hb'
      have hE : ¬ (9 < n ∨ (n = 9 ∧ 1 < (w % 128 + 128) % 128) ∨ (0 < n ∧ ((w % 128 + 128 : Nat) : Int) = 0)) := by omega
      have e : (w % 128 + 128) % 128 = w % 128 := by omega
      rw [leb_big hv, List.take_succ_cons]
      simp only [sh, Int.toNat_natCast]
      rw [if_neg hE, if_neg (by omega), e, hih]
theorem leb_sh : ∀ (l : List Int) (n v0 v' m : Nat), (∀ x ∈ l, 0 ≤ x ∧ x < 256) → sh l n v0 = ((v' : Int), (m : Int), 0) →
    ∃ w, l = leb w ++ l.drop (m - n) ∧ v' = v0 + w * 128 ^ n ∧ n < m ∧ (0 < n → 0 < w) := by
  intro l
  induction l with
  | nil => intro n v0 v' m _ h; simp [sh] at h
  | cons b l ih =>
    intro n v0 v' m hw h
    obtain ⟨c, rfl, hc2⟩ : ∃ c : Nat, b = (c : Int) ∧ c < 256 := ⟨b.toNat, by have := hw b (by simp); omega, by have := hw b (by simp); omega⟩
    simp only [sh, Int.toNat_natCast] at h
    by_cases hE : 9 < n ∨ (n = 9 ∧ 1 < c % 128) ∨ (0 < n ∧ (c : Int) = 0)
    · rw [if_pos hE] at h; simp at h
    · rw [if_neg hE] at h
      by_cases h8 : (c : Int) < 128
      · rw [if_pos h8] at h
        simp only [Prod.mk.injEq, Int.natCast_inj, and_true] at h
        obtain ⟨h1, h2⟩ := h
        refine ⟨c, ?_, ?_, by omega, fun h => by omega⟩
        · rw [leb_small (by omega), show m - n = 1 by omega]; rfl
        · rw [← h1, Nat.mod_eq_of_lt (by omega)]
      · rw [if_neg h8] at h
        obtain ⟨w, h1, h2, h3, h4⟩ := ih (n + 1) _ v' m (fun x hx => hw x (by simp [hx])) h
        have hw0 := h4 (by omega)
        refine ⟨c % 128 + 128 * w, ?_, ?_, by omega, fun _ => by omega⟩
        · rw [leb_big (by omega), show (c % 128 + 128 * w) % 128 + 128 = c by omega, show (c % 128 + 128 * w) / 128 = w by omega, show m - n = (m - (n + 1)) + 1 by omega, List.drop_succ_cons, List.cons_append, ← h1]
        · rw [h2, Nat.add_mul, Nat.pow_succ, Nat.add_assoc]; congr 2; ac_rfl
theorem zag_zz {x : Int} (h0 : -9223372036854775808 ≤ x) (h1 : x ≤ 9223372036854775807) : zag (zz x).toNat = x := by
  unfold zag zz; split <;> split <;> omega
theorem zz_zag {v : Nat} : (zz (zag v)).toNat = v := by
  unfold zag zz; split <;> split <;> omega

/-! num.PutFix and (num.Reader).Fix -/
def fixb : Nat → Nat → List Int
  | 0, _ => []
  | n + 1, v => ((v % 256 : Nat) : Int) :: fixb n (v / 256)
theorem fixb_length : ∀ n v, (fixb n v).length = n := by
  intro n
  induction n with
  | zero => intro v; rfl
  | succ n ih => intro v; simp [fixb, ih]
theorem putfix_l0 (N : Nat) (hN : N ≤ 8) : ∀ (d i v : Nat) (out : List Int), N = i + d → out.length + d < 140737488355328 → Ev (fun k => num_PutFix.l0 k out v N i) (out ++ fixb d v) := by
  intro d
  induction d with
  | zero =>
    intro i v out hi ho
    rw [fixb, List.append_nil]
    exact Ev.step (f := fun _ => some out) (fun k => by simp only [num_PutFix.l0]; rw [if_neg (by omega)]) (Ev.now _)
  | succ d ih =>
    intro i v out hi ho
    have := ih (i + 1) (v / 256) (out ++ [((v % 256 : Nat) : Int)]) (by omega) (by simp; omega)
    rw [List.append_assoc] at this
    refine Ev.step (fun k => ?_) this
    simp only [num_PutFix.l0]
    rw [if_pos (by omega), if_pos (by omega), w64 (by omega) (by omega)]
    rfl
theorem putfix_g (out : List Int) (ho : out.length < 1000000) (n v : Nat) (hn : n ≤ 8) : Ev (fun k => num_PutFix.f k out v n) (out ++ fixb n v) := by
  have h := putfix_l0 n hn n 0 v out (by omega) (by omega)
  refine Ev.congr (fun k => ?_) h
  unfold num_PutFix.f
  rw [show mx 0 (mn (n : Int) 8) = (n : Int) by unfold mx mn; split <;> split <;> omega]
  rfl
theorem putfix_f (n v : Nat) (hn : n ≤ 8) : Ev (fun k => num_PutFix.f k [] v n) (fixb n v) := by
  have h := putfix_l0 n hn n 0 v [] (by omega) (by simp; omega)
  rw [List.nil_append] at h
  refine Ev.congr (fun k => ?_) h
  unfold num_PutFix.f
  rw [show mx 0 (mn (n : Int) 8) = (n : Int) by unfold mx mn; split <;> split <;> omega]
  rfl
theorem orM (t : Nat) {M : Int} (hM : M = ((2 ^ t : Nat) : Int)) (h c : Nat) {A : Int} (hA : A = ((h * 2 ^ (8 + t) : Nat) : Int)) (hc : c < 256) (hb : (h * 256 + c) * 2 ^ t < 18446744073709551616) :
    Go.bits .or .u64 A (IntKind.u64.wrap (IntKind.u64.wrap (c : Int) * M)) = (((h * 256 + c) * 2 ^ t : Nat) : Int) := by
  have e : (h * 256 + c) * 2 ^ t = h * 2 ^ (8 + t) + c * 2 ^ t := by rw [Nat.pow_add, Nat.add_mul, ← Nat.mul_assoc]
  have hlt : c * 2 ^ t < 2 ^ (8 + t) := by rw [Nat.pow_add]; exact Nat.mul_lt_mul_of_pos_right hc (Nat.two_pow_pos t)
  rw [e] at hb ⊢
  rw [hA, hM, u64w_id (n := (c : Int)) (by omega) (by omega), ← Int.natCast_mul, u64w_id (by exact Int.natCast_nonneg _) (Int.ofNat_lt.mpr (Nat.lt_of_le_of_lt (Nat.le_add_left _ _) hb)),
    bits_or_u64_nat _ _ (Nat.lt_of_le_of_lt (Nat.le_add_right _ _) hb) (Nat.lt_of_le_of_lt (Nat.le_add_left _ _) hb), Nat.mul_comm h, ← Nat.two_pow_add_eq_or_of_lt hlt]
theorem orL (h c : Nat) {A : Int} (hA : A = ((h * 256 : Nat) : Int)) (hc : c < 256) (hb : h * 256 + c < 18446744073709551616) :
    Go.bits .or .u64 A (IntKind.u64.wrap (c : Int)) = ((h * 256 + c : Nat) : Int) := by
  have := orM 0 (M := 1) (by rfl) h c (A := A) (by rw [hA, show 2 ^ (8 + 0) = 256 from rfl]) hc (by rw [Nat.pow_zero, Nat.mul_one]; exact hb)
  rw [Int.mul_one, u64w_id (n := IntKind.u64.wrap (c : Int)) (by rw [u64w]; omega) (by rw [u64w]; omega), Nat.pow_zero, Nat.mul_one] at this
  exact this
theorem fixg_1 (k : Nat) (b0 : Nat) (h0 : b0 < 256) {L : List Int} {a e on A E O : Int} (ht : num_Reader_Take.f L a e on 1 = some (([(b0 : Int)] : List Int), A, E, O)) : num_Reader_Fix.j0 (k + 1) 1 false L a e on = some ((((0) * 256 + b0 : Nat) : Int), A, E, O) := by
  simp only [num_Reader_Fix.j0]
  rw [if_neg (by decide), ht, Option.bind_some]
  rw [if_neg (by simp), if_neg (by simp), if_neg (by simp), if_neg (by simp), if_neg (by simp), if_neg (by simp), if_neg (by simp), if_pos (by simp), if_pos (by simp)]
  rw [show rd ([(b0 : Int)] : List Int) 0 = (b0 : Int) from rfl]
  rw [orL (0) b0 (by first | omega | (simp only [Nat.reducePow]; omega) | (simp only [Nat.reducePow]; done)) h0 (by omega)]
theorem fixg_8 (k : Nat) (b0 b1 b2 b3 b4 b5 b6 b7 : Nat) (h0 : b0 < 256) (h1 : b1 < 256) (h2 : b2 < 256) (h3 : b3 < 256) (h4 : b4 < 256) (h5 : b5 < 256) (h6 : b6 < 256) (h7 : b7 < 256) {L : List Int} {a e on A E O : Int} (ht : num_Reader_Take.f L a e on 8 = some (([(b0 : Int), (b1 : Int), (b2 : Int), (b3 : Int), (b4 : Int), (b5 : Int), (b6 : Int), (b7 : Int)] : List Int), A, E, O)) : num_Reader_Fix.j0 (k + 1) 8 false L a e on = some (((((((((((0) * 256 + b7) * 256 + b6) * 256 + b5) * 256 + b4) * 256 + b3) * 256 + b2) * 256 + b1) * 256 + b0 : Nat) : Int), A, E, O) := by
  simp only [num_Reader_Fix.j0]
  rw [if_neg (by decide), ht, Option.bind_some]
  rw [if_pos (by simp), if_pos (by simp), if_pos (by simp), if_pos (by simp), if_pos (by simp), if_pos (by simp), if_pos (by simp), if_pos (by simp), if_pos (by simp)]
  rw [show rd ([(b0 : Int), (b1 : Int), (b2 : Int), (b3 : Int), (b4 : Int), (b5 : Int), (b6 : Int), (b7 : Int)] : List Int) 7 = (b7 : Int) from rfl]
  rw [show rd ([(b0 : Int), (b1 : Int), (b2 : Int), (b3 : Int), (b4 : Int), (b5 : Int), (b6 : Int), (b7 : Int)] : List Int) 6 = (b6 : Int) from rfl]
  rw [show rd ([(b0 : Int), (b1 : Int), (b2 : Int), (b3 : Int), (b4 : Int), (b5 : Int), (b6 : Int), (b7 : Int)] : List Int) 5 = (b5 : Int) from rfl]
  rw [show rd ([(b0 : Int), (b1 : Int), (b2 : Int), (b3 : Int), (b4 : Int), (b5 : Int), (b6 : Int), (b7 : Int)] : List Int) 4 = (b4 : Int) from rfl]
  rw [show rd ([(b0 : Int), (b1 : Int), (b2 : Int), (b3 : Int), (b4 : Int), (b5 : Int), (b6 : Int), (b7 : Int)] : List Int) 3 = (b3 : Int) from rfl]
  rw [show rd ([(b0 : Int), (b1 : Int), (b2 : Int), (b3 : Int), (b4 : Int), (b5 : Int), (b6 : Int), (b7 : Int)] : List Int) 2 = (b2 : Int) from rfl]
  rw [show rd ([(b0 : Int), (b1 : Int), (b2 : Int), (b3 : Int), (b4 : Int), (b5 : Int), (b6 : Int), (b7 : Int)] : List Int) 1 = (b1 : Int) from rfl]
  rw [show rd ([(b0 : Int), (b1 : Int), (b2 : Int), (b3 : Int), (b4 : Int), (b5 : Int), (b6 : Int), (b7 : Int)] : List Int) 0 = (b0 : Int) from rfl]
  rw [orM 56 (by decide) (0) b7 (by first | omega | (simp only [Nat.reducePow]; omega) | (simp only [Nat.reducePow]; done)) h7 (by first | omega | (simp only [Nat.reducePow]; omega) | (simp only [Nat.reducePow]; done))]
  rw [orM 48 (by decide) ((0) * 256 + b7) b6 (by first | omega | (simp only [Nat.reducePow]; omega) | (simp only [Nat.reducePow]; done)) h6 (by first | omega | (simp only [Nat.reducePow]; omega) | (simp only [Nat.reducePow]; done))]
  rw [orM 40 (by decide) (((0) * 256 + b7) * 256 + b6) b5 (by first | omega | (simp only [Nat.reducePow]; omega) | (simp only [Nat.reducePow]; done)) h5 (by first | omega | (simp only [Nat.reducePow]; omega) | (simp only [Nat.reducePow]; done))]
  rw [orM 32 (by decide) ((((0) * 256 + b7) * 256 + b6) * 256 + b5) b4 (by first | omega | (simp only [Nat.reducePow]; omega) | (simp only [Nat.reducePow]; done)) h4 (by first | omega | (simp only [Nat.reducePow]; omega) | (simp only [Nat.reducePow]; done))]
  rw [orM 24 (by decide) (((((0) * 256 + b7) * 256 + b6) * 256 + b5) * 256 + b4) b3 (by first | omega | (simp only [Nat.reducePow]; omega) | (simp only [Nat.reducePow]; done)) h3 (by first | omega | (simp only [Nat.reducePow]; omega) | (simp only [Nat.reducePow]; done))]
  rw [orM 16 (by decide) ((((((0) * 256 + b7) * 256 + b6) * 256 + b5) * 256 + b4) * 256 + b3) b2 (by first | omega | (simp only [Nat.reducePow]; omega) | (simp only [Nat.reducePow]; done)) h2 (by first | omega | (simp only [Nat.reducePow]; omega) | (simp only [Nat.reducePow]; done))]
  rw [orM 8 (by decide) (((((((0) * 256 + b7) * 256 + b6) * 256 + b5) * 256 + b4) * 256 + b3) * 256 + b2) b1 (by first | omega | (simp only [Nat.reducePow]; omega) | (simp only [Nat.reducePow]; done)) h1 (by first | omega | (simp only [Nat.reducePow]; omega) | (simp only [Nat.reducePow]; done))]
  rw [orL ((((((((0) * 256 + b7) * 256 + b6) * 256 + b5) * 256 + b4) * 256 + b3) * 256 + b2) * 256 + b1) b0 (by first | omega | (simp only [Nat.reducePow]; omega) | (simp only [Nat.reducePow]; done)) h0 (by omega)]

theorem numawake : Ev (fun k => estreatlaw01_awake.f k) true := by
  unfold estreatlaw01_awake.f
  have hp : Ev (fun k => num_PutVar.f k [] 300) [172, 2] := ⟨10, fun k hk => by
    show num_PutVar.f k [] 300 = _
    rw [putvar_f (by decide) (by decide) hk (by decide)]
    rw [show Int.toNat 300 = 300 from rfl, leb_big (by decide), leb_small (by decide)]; decide⟩
  refine Ev.bind hp ?_
  refine Ev.bind (a := true) ⟨10, fun k hk => by
    have := same_f [172, 2] [172, 2] (by decide) k (by simp; omega)
    simpa using this⟩ ?_
  simp only [if_true]
  rw [zig_f (by decide) (by decide)]
  exact Ev.now _
theorem take_at (pre l rest : List Int) (on : Int) (h : (pre ++ (l ++ rest)).length ≤ 1000000) : num_Reader_Take.f (pre ++ (l ++ rest)) (pre.length : Int) 0 on (l.length : Int) = some (l, ((pre.length + l.length : Nat) : Int), 0, on) := by
  rw [List.length_append, List.length_append] at h
  unfold num_Reader_Take.f
  rw [if_pos (by rw [List.length_append, List.length_append]; omega), if_neg (by simp), if_neg (by omega), if_neg (by rw [List.length_append, List.length_append]; omega), Int.toNat_natCast, Int.toNat_natCast, List.drop_left, List.take_left]
  simp
theorem fix8_at (pre rest : List Int) (v : Nat) (hv : v < 18446744073709551616) (on : Int) (h : (pre ++ (fixb 8 v ++ rest)).length ≤ 1000000) :
    Ev (fun k => num_Reader_Fix.f k (pre ++ (fixb 8 v ++ rest)) (pre.length : Int) 0 on 8) ((v : Int), ((pre.length + 8 : Nat) : Int), 0, on) := by
  have ht := take_at pre (fixb 8 v) rest on h
  rw [fixb_length] at ht
  refine Ev.congr (f := fun k => num_Reader_Fix.j0 k 8 false (pre ++ (fixb 8 v ++ rest)) (pre.length : Int) 0 on) (fun k => by unfold num_Reader_Fix.f; rw [if_neg (by omega), decide_eq_false (by omega)]) ⟨1, fun k hk => ?_⟩
  obtain ⟨k, rfl⟩ : ∃ m, k = m + 1 := ⟨k - 1, by omega⟩
  have hm : ∀ x : Nat, x % 256 < 256 := fun x => by omega
  exact (fixg_8 k _ _ _ _ _ _ _ _ (hm _) (hm _) (hm _) (hm _) (hm _) (hm _) (hm _) (hm _) ht).trans (by congr 3; omega)
theorem var_at (pre rest : List Int) (v : Nat) (hv : v < 18446744073709551616) (hw : ∀ x ∈ pre ++ (leb v ++ rest), 0 ≤ x ∧ x < 256) (on : Int) (h : (pre ++ (leb v ++ rest)).length ≤ 1000000) :
    Ev (fun k => num_Reader_Var.f k (pre ++ (leb v ++ rest)) (pre.length : Int) 0 on) ((v : Int), ((pre.length + (leb v).length : Nat) : Int), 0, on) := by
  have hs := sh_leb rest v 0 0 (by omega) (fun h => by omega) (by rw [Nat.pow_zero]; omega)
  rw [Nat.pow_zero, Nat.mul_one, Nat.zero_add, Nat.zero_add] at hs
  refine nvar_ok hw (by omega) (by rw [List.length_append]; omega) (by rw [List.drop_left]; exact hs) (by rw [List.length_append, List.length_append]; omega)
theorem blob_at (pre p rest : List Int) (hp : p.length ≤ 300) (hw : ∀ x ∈ pre ++ (leb p.length ++ (p ++ rest)), 0 ≤ x ∧ x < 256) (on : Int) (h : (pre ++ (leb p.length ++ (p ++ rest))).length ≤ 1000000) :
    Ev (fun k => num_Reader_Blob.f k (pre ++ (leb p.length ++ (p ++ rest))) (pre.length : Int) 0 on 300) (p, ((pre.length + (leb p.length).length + p.length : Nat) : Int), 0, on) := by
  have hs := sh_leb (p ++ rest) p.length 0 0 (by omega) (fun h => by omega) (by rw [Nat.pow_zero]; omega)
  rw [Nat.pow_zero, Nat.mul_one, Nat.zero_add, Nat.zero_add] at hs
  have hsf := short_f (leb p.length ++ (p ++ rest)) (fun x hx => hw x (by rw [List.mem_append]; exact .inr hx)) (by rw [List.length_append] at h; omega)
  rw [hs] at hsf
  have hl := h
  rw [List.length_append, List.length_append, List.length_append] at hl
  have ht := take_at (pre ++ leb p.length) p rest on (by rw [List.append_assoc]; exact h)
  rw [List.append_assoc, List.length_append] at ht
  refine Ev.congr (f := fun k => _) (fun k => by
    unfold num_Reader_Blob.f
    rw [if_neg (by simp), if_pos (by rw [List.length_append, List.length_append, List.length_append]; omega), Int.toNat_natCast, List.drop_left]) (Ev.bind hsf ?_)
  refine ⟨0, fun k _ => ?_⟩
  simp only []
  rw [if_neg (by simp), if_pos (by rw [List.length_append, List.length_append, List.length_append]; omega), if_neg (by rw [u64w_id (by omega) (by omega)]; omega), if_neg (by rw [List.length_append, List.length_append, List.length_append]; omega), ← Int.natCast_add]
  exact ht
theorem fixb_bytes : ∀ n v, ∀ x ∈ fixb n v, 0 ≤ x ∧ x < 256 := by
  intro n
  induction n with
  | zero => intro v x hx; cases hx
  | succ n ih =>
    intro v x hx
    rcases List.mem_cons.1 hx with rfl | hx
    · omega
    · exact ih _ x hx
theorem leb_bytes : ∀ (w : Nat), ∀ x ∈ leb w, 0 ≤ x ∧ x < 256 := by
  intro w
  induction w using Nat.strongRecOn with
  | _ w ih =>
  intro x hx
  by_cases hv : w < 128
  · rw [leb_small hv] at hx; simp at hx; omega
  · rw [leb_big hv] at hx
    rcases List.mem_cons.1 hx with rfl | hx
    · omega
    · exact ih (w / 128) (by omega) x hx
theorem putvar_ev (v : Nat) (hv : v < 18446744073709551616) (b : List Int) (hb : b.length < 140737488000000) : Ev (fun k => num_PutVar.f k b v) (b ++ leb v) := ⟨10, fun k hk => by
  have := putvar_f (v := (v : Int)) (b := b) (k := k) (by omega) (by omega) hk hb
  rw [Int.toNat_natCast] at this; exact this⟩
theorem NumBack : estreatlaw01_NumBack.Pure := by
  intro v0 n p rest hv hn hm1 hs1 hw1 hm2 hs2 hw2
  have hv' := wf_u64 hv
  have hn' := wf_i64 hn
  obtain ⟨v, rfl⟩ := Int.eq_ofNat_of_zero_le hv'.1
  have hv2 : v < 18446744073709551616 := by omega
  have hp' : ∀ x ∈ p, 0 ≤ x ∧ x < 256 := fun x hx => wf_u8 (hw1 x hx)
  have hr' : ∀ x ∈ rest, 0 ≤ x ∧ x < 256 := fun x hx => wf_u8 (hw2 x hx)
  refine Ev.rounds ?_
  unfold estreatlaw01_NumBack.f
  have hout : Ev (fun k => estreatlaw01_NumBack.j0 k v n p rest true) true := by
    refine Ev.step (f := fun k => _) (fun k => by simp only [estreatlaw01_NumBack.j0]; rw [if_pos trivial]) ?_
    exact Ev.bind numawake (Ev.now _)
  by_cases c : (p.length : Int) > 300
  · simp only [if_pos c]; exact hout
  · simp only [if_neg c]
    by_cases c2 : (rest.length : Int) > 300
    · rw [decide_eq_true c2]; exact hout
    · rw [decide_eq_false c2]
      have l1 := leb_length10 hv2
      have l2 := leb_length10 (v := p.length) (by omega)
      have l3 := fixb_length 8 v
      refine Ev.step (f := fun k => _) (fun k => by simp only [estreatlaw01_NumBack.j0]; rw [if_neg (by decide)]) ?_
      have q1 := putvar_ev v hv2 [] (by simp)
      rw [List.nil_append] at q1
      refine Ev.bind q1 ?_
      refine Ev.bind (putfix_g (leb v) (by omega) 8 v (by omega)) ?_
      have hlen : (leb v ++ fixb 8 v ++ leb p.length).length ≤ 28 := by rw [List.length_append, List.length_append]; omega
      refine Ev.bind (a := leb v ++ fixb 8 v ++ leb p.length ++ p) ?_ ?_
      · refine Ev.congr (f := fun k => _) (fun k => by unfold num_PutBlob.f; rw [u64w_id (n := (p.length : Int)) (by omega) (by omega)]) ?_
        refine Ev.bind (putvar_ev p.length (by omega) (leb v ++ fixb 8 v) (by rw [List.length_append]; omega)) ⟨0, fun k _ => ?_⟩
        simp only []
        rw [if_pos (by omega)]
      have hlen2 : (leb v ++ fixb 8 v ++ leb p.length ++ p).length ≤ 328 := by rw [List.length_append]; omega
      simp only [if_pos (show (leb v ++ fixb 8 v ++ leb p.length ++ p).length + rest.length < 140737488355328 by omega)]
      have eB : leb v ++ fixb 8 v ++ leb p.length ++ p ++ rest = leb v ++ (fixb 8 v ++ (leb p.length ++ (p ++ rest))) := by simp only [List.append_assoc]
      have hBl : (leb v ++ (fixb 8 v ++ (leb p.length ++ (p ++ rest)))).length ≤ 1000000 := by rw [← eB, List.length_append]; omega
      have hBb : ∀ x ∈ leb v ++ (fixb 8 v ++ (leb p.length ++ (p ++ rest))), 0 ≤ x ∧ x < 256 := by
        intro x hx
        simp only [List.mem_append] at hx
        rcases hx with h | h | h | h | h
        · exact leb_bytes _ x h
        · exact fixb_bytes _ _ x h
        · exact leb_bytes _ x h
        · exact hp' x h
        · exact hr' x h
      rw [eB]
      refine Ev.bind (a := (leb v ++ (fixb 8 v ++ (leb p.length ++ (p ++ rest))), 0, 0, 0)) ⟨0, fun k _ => by
        show num_NewReader.f _ = _
        unfold num_NewReader.f; rw [if_pos (by omega)]⟩ ?_
      have r1 := var_at [] (fixb 8 v ++ (leb p.length ++ (p ++ rest))) v hv2 hBb 0 hBl
      rw [List.nil_append] at r1
      refine Ev.bind r1 ?_
      have r2 := fix8_at (leb v) (leb p.length ++ (p ++ rest)) v hv2 0 hBl
      rw [List.length_nil, Nat.zero_add]
      refine Ev.bind r2 ?_
      have eC : leb v ++ (fixb 8 v ++ (leb p.length ++ (p ++ rest))) = (leb v ++ fixb 8 v) ++ (leb p.length ++ (p ++ rest)) := by rw [List.append_assoc]
      have r3 := blob_at (leb v ++ fixb 8 v) p rest (by omega) (by rw [← eC]; exact hBb) 0 (by rw [← eC]; exact hBl)
      rw [← eC, List.length_append, l3] at r3
      refine Ev.bind r3 ?_
      simp only [num_Reader_Err.f, Option.bind_some, if_true]
      refine Ev.bind (a := true) ⟨301, fun k hk => by
        have := same_f p p (by omega) k (by omega)
        simpa using this⟩ ?_
      simp only [if_true, num_Reader_Left.f, Option.bind_some]
      have eL : wrap64 (((leb v ++ (fixb 8 v ++ (leb p.length ++ (p ++ rest)))).length : Int) - (((leb v).length + 8 + (leb p.length).length + p.length : Nat) : Int)) = (rest.length : Int) := by
        rw [List.length_append, List.length_append, List.length_append, List.length_append, l3, w64 (by omega) (by omega)]; omega
      simp only [eL, if_true]
      have hz := zz_range hn'.1 hn'.2
      have hzz : zz n = (((zz n).toNat : Nat) : Int) := by omega
      rw [zig_f hn'.1 hn'.2]
      simp only [Option.bind_some]
      rw [hzz, zag_f _ (by omega)]
      simp only [Option.bind_some, zag_zz hn'.1 hn'.2, if_true]
      have hzr := zag_range hv2
      have hz2 := zz_range hzr.1 hzr.2
      have hzv : zz (zag v) = (v : Int) := by have := zz_zag (v := v); omega
      rw [zag_f v hv2]
      simp only [Option.bind_some]
      rw [zig_f hzr.1 hzr.2]
      simp only [Option.bind_some, hzv, if_true]
      exact Ev.bind numawake (Ev.now _)

end Go.Proofs.YtjmhfbgpebgcmaaDoor.Pure
