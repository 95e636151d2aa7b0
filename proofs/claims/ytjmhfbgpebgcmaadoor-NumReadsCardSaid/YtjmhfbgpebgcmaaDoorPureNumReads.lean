/- What one ask does to both readers. -/
import Derived.Test.YtjmhfbgpebgcmaaDoorPNumReadsx
import Derived.Lib.Zigzag
import Derived.Lib.BitFns
namespace Go.Proofs.YtjmhfbgpebgcmaaDoor.Pure
open Go.RowKit Go.Proofs.YtjmhfbgpebgcmaaDoor.PNumReads Go.Proofs.YtjmhfbgpebgcmaaDoorW.PrintWords Go.Proofs.YtjmhfbgpebgcmaaDoorW.PrintLast Go.Proofs.YtjmhfbgpebgcmaaDoorW.PrintMore

/-! words of this session: plain facts on numbers and lists -/
theorem w64 {n : Int} (h0 : -9223372036854775808 ≤ n) (h1 : n ≤ 9223372036854775807) : wrap64 n = n := by unfold wrap64; omega
theorem u64w (n : Int) : IntKind.u64.wrap n = n % 18446744073709551616 := by simp [IntKind.wrap, IntKind.bits, IntKind.signed]
theorem u64w_id {n : Int} (h0 : 0 ≤ n) (h1 : n < 18446744073709551616) : IntKind.u64.wrap n = n := by rw [u64w]; omega
theorem rd_nat (xs : List Int) (i : Nat) : rd xs (i : Int) = xs.getD i 0 := by simp [rd]
theorem rd_get {xs : List Int} {i : Nat} (h : i < xs.length) : rd xs (i : Int) = xs[i] := by simp [rd, h]
theorem wf_i64 {x : Int} (h : (Lit.int .i64 x).wf = true) : -9223372036854775808 ≤ x ∧ x ≤ 9223372036854775807 := by
  simp [Lit.wf, IntKind.min, IntKind.max, IntKind.signed, IntKind.bits] at h; omega
theorem wf_u64 {x : Int} (h : (Lit.int .u64 x).wf = true) : 0 ≤ x ∧ x < 18446744073709551616 := by
  simp [Lit.wf, IntKind.min, IntKind.max, IntKind.signed, IntKind.bits] at h; omega
theorem wf_u8 {x : Int} (h : (Lit.int .u8 x).wf = true) : 0 ≤ x ∧ x < 256 := by
  simp [Lit.wf, IntKind.min, IntKind.max, IntKind.signed, IntKind.bits] at h; omega
theorem dropc {α : Type} (l : List α) (i : Nat) (h : i < l.length) : l.drop i = l[i] :: l.drop (i + 1) := List.drop_eq_getElem_cons h

/-! the short number of a number, and what puts it -/
def leb (v : Nat) : List Int := if h : v < 128 then [(v : Int)] else ((v % 128 + 128 : Nat) : Int) :: leb (v / 128)
theorem leb_small {v : Nat} (h : v < 128) : leb v = [(v : Int)] := by rw [leb, dif_pos h]
theorem leb_big {v : Nat} (h : ¬ v < 128) : leb v = ((v % 128 + 128 : Nat) : Int) :: leb (v / 128) := by rw [leb, dif_neg h]
theorem leb_length : ∀ (n v : Nat), v < 128 ^ (n + 1) → (leb v).length ≤ n + 1 := by
  intro n
  induction n with
  | zero => intro v h; rw [leb_small (by simpa using h)]; simp
  | succ n ih =>
    intro v h
    by_cases hv : v < 128
    · rw [leb_small hv]; simp
    · rw [leb_big hv, List.length_cons]
      have := ih (v / 128) (by rw [Nat.div_lt_iff_lt_mul (by decide)]; rw [Nat.pow_succ] at h; omega)
      omega
theorem p128 : (18446744073709551616 : Nat) < 128 ^ (9 + 1) := by decide
theorem leb_length10 {v : Nat} (h : v < 18446744073709551616) : (leb v).length ≤ 10 := leb_length 9 v (Nat.lt_trans h p128)

theorem putvar_l0 : ∀ (n k v : Nat) (b : List Int), v < 128 ^ (n + 1) → n < k → b.length + n < 140737488355328 → num_PutVar.l0 k b v = some (b ++ leb v) := by
  intro n
  induction n with
  | zero =>
    intro k v b hv hk hb
    obtain ⟨k, rfl⟩ : ∃ m, k = m + 1 := ⟨k - 1, by omega⟩
    simp only [num_PutVar.l0]
    rw [if_neg (by omega), if_pos (by omega), leb_small (by omega)]
    rw [Int.emod_eq_of_lt (by omega) (by omega)]
  | succ n ih =>
    intro k v b hv hk hb
    obtain ⟨k, rfl⟩ : ∃ m, k = m + 1 := ⟨k - 1, by omega⟩
    simp only [num_PutVar.l0]
    by_cases h : v < 128
    · rw [if_neg (by omega), if_pos (by omega), leb_small h, Int.emod_eq_of_lt (by omega) (by omega)]
    · rw [if_pos (by omega), if_pos (by omega), Lib.u8_or128_any _ (by omega) (by omega), leb_big h]
      have e : (v : Int) / 128 = ((v / 128 : Nat) : Int) := by omega
      rw [e, ih k (v / 128) _ (by rw [Nat.div_lt_iff_lt_mul (by decide)]; rw [Nat.pow_succ] at hv; omega) (by omega) (by simp; omega)]
      have e2 : (v : Int) % 256 % 128 + 128 = ((v % 128 + 128 : Nat) : Int) := by omega
      rw [e2]; simp
theorem putvar_f {v : Int} {b : List Int} {k : Nat} (h0 : 0 ≤ v) (h1 : v < 18446744073709551616) (hk : 10 ≤ k) (hb : b.length < 140737488000000) : num_PutVar.f k b v = some (b ++ leb v.toNat) := by
  obtain ⟨n, rfl⟩ := Int.eq_ofNat_of_zero_le h0
  unfold num_PutVar.f
  exact putvar_l0 9 k n b (Nat.lt_trans (by omega) p128) (by omega) (by omega)

/-! estreatref01.Same: are two lists one? -/
theorem same_l0 (xs ys : List Int) (hl : xs.length = ys.length) (hb : xs.length < 9223372036854775807) : ∀ (d k i : Nat), xs.length = i + d → d < k → estreatref01_Same.l0 k xs ys i = some (decide (xs.drop i = ys.drop i)) := by
  intro d
  induction d with
  | zero =>
    intro k i hd hk
    obtain ⟨k, rfl⟩ : ∃ m, k = m + 1 := ⟨k - 1, by omega⟩
    simp only [estreatref01_Same.l0]; rw [if_neg (by omega), List.drop_of_length_le (by omega), List.drop_of_length_le (by omega)]; simp
  | succ d ih =>
    intro k i hd hk
    obtain ⟨k, rfl⟩ : ∃ m, k = m + 1 := ⟨k - 1, by omega⟩
    simp only [estreatref01_Same.l0]
    have := ih k (i + 1) (by omega) (by omega)
    simp only [Int.natCast_add, Int.natCast_one] at this
    rw [if_pos (by omega), if_pos (by omega), if_pos (by omega), rd_get (by omega), rd_get (by omega), w64 (by omega) (by omega), this]
    have ex : xs.drop i = xs[i] :: xs.drop (i + 1) := List.drop_eq_getElem_cons (by omega)
    have ey : ys.drop i = ys[i] :: ys.drop (i + 1) := List.drop_eq_getElem_cons (by omega)
    rw [ex, ey]
    by_cases h : xs[i] = ys[i]
    · rw [if_pos h, h]; simp only [List.cons.injEq, true_and]
    · rw [if_neg h, decide_eq_false]; simp only [List.cons.injEq, h, false_and, not_false_eq_true]
theorem same_f (xs ys : List Int) (hb : xs.length < 9223372036854775807) : ∀ k, xs.length < k → estreatref01_Same.f k xs ys = some (decide (xs = ys)) := by
  intro k hk
  unfold estreatref01_Same.f
  by_cases h : xs.length = ys.length
  · rw [if_pos (by omega)]
    have := same_l0 xs ys h hb xs.length k 0 (by omega) hk
    simpa using this
  · rw [if_neg (by omega)]
    have : xs ≠ ys := fun e => h (by rw [e])
    simp [this]

/-! num.Zig -/
def zz (x : Int) : Int := if 0 ≤ x then 2 * x else -2 * x - 1
theorem zz_range {x : Int} (h0 : -9223372036854775808 ≤ x) (h1 : x ≤ 9223372036854775807) : 0 ≤ zz x ∧ zz x < 18446744073709551616 := by
  unfold zz; split <;> omega
theorem zig_f {x : Int} (h0 : -9223372036854775808 ≤ x) (h1 : x ≤ 9223372036854775807) : num_Zig.f x = some (zz x) := by
  unfold num_Zig.f zz
  by_cases h : 0 ≤ x
  · rw [if_pos h]
    have e1 : IntKind.u64.wrap (IntKind.u64.wrap x * 2) = (((2 * x).toNat : Nat) : Int) := by rw [u64w, u64w]; omega
    have e2 : IntKind.u64.wrap (x / 9223372036854775808) = ((0 : Nat) : Int) := by rw [u64w]; omega
    rw [e1, e2, bits_xor_u64_nat _ _ (by omega) (by omega), Nat.xor_zero]
    congr 1; omega
  · rw [if_neg h]
    have e1 : IntKind.u64.wrap (IntKind.u64.wrap x * 2) = (((2 * x + 18446744073709551616).toNat : Nat) : Int) := by rw [u64w, u64w]; omega
    have e2 : IntKind.u64.wrap (x / 9223372036854775808) = ((2 ^ 64 - 1 : Nat) : Int) := by rw [u64w]; omega
    rw [e1, e2, bits_xor_u64_nat _ _ (by omega) (by decide), Nat.xor_comm, Lib.xor_ones64 _ (by omega)]
    congr 1; omega

theorem numawake : Ev (fun k => estreatlaw01_awake.f k) true := by
  unfold estreatlaw01_awake.f
  have hp : Ev (fun k => num_PutVar.f k [] 300) [172, 2] := ⟨10, fun k hk => by
    show num_PutVar.f k [] 300 = _
    rw [putvar_f (by decide) (by decide) hk (by decide)]
    rw [show Int.toNat 300 = 300 from rfl, leb_big (by decide), leb_small (by decide)]; decide⟩
  refine Ev.bind hp ?_
  refine Ev.bind (a := true) ⟨10, fun k hk => by
    have := same_f [172, 2] [172, 2] (by decide) k (by simp; omega)
    simpa using this⟩ ?_
  simp only [if_true]
  rw [zig_f (by decide) (by decide)]
  exact Ev.now _

/-! the short number that begins bytes: how many bytes it has, or an error -/
def sh : List Int → Nat → Nat → Int × Int × Int
  | [], _, _ => (0, 0, 2)
  | b :: l, n, v =>
    if 9 < n ∨ (n = 9 ∧ 1 < b.toNat % 128) ∨ (0 < n ∧ b = 0) then (0, 0, 4)
    else if b < 128 then (((v + b.toNat % 128 * 128 ^ n : Nat) : Int), ((n + 1 : Nat) : Int), 0)
    else sh l (n + 1) (v + b.toNat % 128 * 128 ^ n)
theorem or_add (v x n : Nat) (h : v < 2 ^ n) : v ||| (x * 2 ^ n) = v + x * 2 ^ n := by
  rw [Nat.or_comm, Nat.mul_comm x, ← Nat.two_pow_add_eq_or_of_lt h, Nat.add_comm]
theorem shl64s {x n : Nat} (hn : n ≤ 64) (h : x * 2 ^ n < 18446744073709551616) : shl .u64 (x : Int) n = ((x * 2 ^ n : Nat) : Int) := by
  unfold shl
  rw [Int.toNat_natCast, show IntKind.u64.bits = 64 from rfl, Nat.min_eq_left hn, show ((x : Int) * 2 ^ n) = ((x * 2 ^ n : Nat) : Int) by simp, u64w_id (Int.natCast_nonneg _) (by omega)]
theorem sh_bound {c n v : Nat} (hn : n ≤ 9) (h9 : ¬ (n = 9 ∧ 1 < c % 128)) (hv : v < 128 ^ n) : v + c % 128 * 128 ^ n < 18446744073709551616 ∧ v + c % 128 * 128 ^ n < 128 ^ (n + 1) := by
  have h9' : n = 9 → c % 128 ≤ 1 := fun h => by omega
  clear h9
  rcases (show n = 0 ∨ n = 1 ∨ n = 2 ∨ n = 3 ∨ n = 4 ∨ n = 5 ∨ n = 6 ∨ n = 7 ∨ n = 8 ∨ n = 9 by omega) with rfl | rfl | rfl | rfl | rfl | rfl | rfl | rfl | rfl | rfl <;> simp only [Nat.reducePow, Nat.reduceAdd] at hv ⊢ <;> first | omega | (have := h9' rfl; omega)
theorem sh_or {c n v : Nat} (hn : n ≤ 9) (h9 : ¬ (n = 9 ∧ 1 < c % 128)) (hv : v < 128 ^ n) : Go.bits .or .u64 (v : Int) (shl .u64 ((c % 128 : Nat) : Int) (IntKind.u64.wrap ((7 * n : Nat) : Int))) = ((v + c % 128 * 128 ^ n : Nat) : Int) := by
  have hb := (sh_bound hn h9 hv).1
  have e : 128 ^ n = 2 ^ (7 * n) := by rw [Nat.pow_mul]
  rw [u64w_id (by omega) (by omega)]
  rw [e] at hb hv ⊢
  rw [shl64s (by omega) (Nat.lt_of_le_of_lt (Nat.le_add_left _ _) hb), bits_or_u64_nat _ _ (Nat.lt_of_le_of_lt (Nat.le_add_right _ _) hb) (Nat.lt_of_le_of_lt (Nat.le_add_left _ _) hb), or_add _ _ _ hv]
theorem and128 : ∀ c : Nat, c < 256 → (Go.bits .and .u8 (c : Int) 128 = 0 ↔ c < 128) := by decide +kernel
theorem and127' : ∀ c : Nat, c < 256 → Go.bits .and .u8 (c : Int) 127 = ((c % 128 : Nat) : Int) := by decide +kernel
theorem and127 {c : Nat} (h : c < 256) : IntKind.u64.wrap (Go.bits .and .u8 (c : Int) 127) = ((c % 128 : Nat) : Int) := by
  rw [and127' c h, u64w_id (by omega) (by omega)]
theorem shr9 {c : Nat} : (shr .u64 ((c % 128 : Nat) : Int) (IntKind.u64.wrap (wrap64 (64 - ((7 * 9 : Nat) : Int)))) != 0) = decide (1 < c % 128) := by
  have e : IntKind.u64.wrap (wrap64 (64 - ((7 * 9 : Nat) : Int))) = 1 := by rw [w64 (by omega) (by omega), u64w_id (by omega) (by omega)]; rfl
  rw [e]; unfold shr
  rw [show (2 : Int) ^ min (1 : Int).toNat IntKind.u64.bits = 2 by decide]
  by_cases h : 1 < c % 128
  · rw [decide_eq_true h, bne_iff_ne]; omega
  · rw [decide_eq_false h]; simp only [bne_eq_false_iff_eq]; omega
theorem short_at (L : List Int) (_ : L.length < 4611686018427387904) (k n v c : Nat) (h : n < L.length) (hc : L[n] = (c : Int)) (hc2 : c < 256) (hn : n ≤ 9) :
    num_short.l0 (k + 1) L v n ((7 * n : Nat) : Int) = num_short.j1 k L v ((n + 1 : Nat) : Int) ((7 * n : Nat) : Int) c ((c % 128 : Nat) : Int) (decide (n = 9 ∧ 1 < c % 128)) := by
  have hrd : rd L (n : Int) = (c : Int) := by rw [rd_get h, hc]
  simp only [num_short.l0]
  rw [if_neg (by omega), if_pos (by omega), if_pos (by omega), if_neg (by omega), hrd, and127 hc2, w64 (n := (n : Int) + 1) (by omega) (by omega), w64 (n := ((7 * n : Nat) : Int) + 7) (by omega) (by omega)]
  rw [show ((n : Int) + 1) = ((n + 1 : Nat) : Int) by omega]
  by_cases h9 : n = 9
  · subst h9
    rw [if_pos (by omega), if_pos (by rw [u64w]; omega), shr9]
    simp
  · rw [if_neg (by omega), decide_eq_false (by omega)]
theorem short_l0 (L : List Int) (hw : ∀ x ∈ L, 0 ≤ x ∧ x < 256) (hl : L.length < 4611686018427387904) : ∀ (d n v : Nat), L.length = n + d → n ≤ 10 → v < 128 ^ n → Ev (fun k => num_short.l0 k L v n ((7 * n : Nat) : Int)) (sh (L.drop n) n v) := by
  intro d
  induction d with
  | zero =>
    intro n v hd hn hv
    rw [List.drop_of_length_le (by omega)]
    exact Ev.step (f := fun _ => some (0, 0, 2)) (fun k => by simp only [num_short.l0]; rw [if_pos (by omega)]) (Ev.now _)
  | succ d ih =>
    intro n v hd hn hv
    have hlt : n < L.length := by omega
    obtain ⟨c, hc, hc2⟩ : ∃ c : Nat, L[n] = (c : Int) ∧ c < 256 := ⟨L[n].toNat, by have := hw _ (List.getElem_mem hlt); omega, by have := hw _ (List.getElem_mem hlt); omega⟩
    have hrd : rd L (n : Int) = (c : Int) := by rw [rd_get hlt, hc]
    rw [dropc L n hlt, hc]
    simp only [sh, Int.toNat_natCast]
    by_cases hN : 9 < n
    · rw [if_pos (.inl hN)]
      refine Ev.step (f := fun k => num_short.j1 k L v (wrap64 (n + 1)) ((7 * n : Nat) : Int) (rd L n) (IntKind.u64.wrap (Go.bits .and .u8 (rd L n) 127)) (decide ((7 * n : Nat) ≥ (64 : Int)))) (fun k => by simp only [num_short.l0]; rw [if_neg (by omega), if_pos (by omega), if_pos (by omega), if_pos (by omega)]) ?_
      refine Ev.step (f := fun _ => some (0, 0, 4)) (fun k => by simp only [num_short.j1]; rw [if_pos (decide_eq_true (by omega))]) (Ev.now _)
    · refine Ev.step (short_at L hl · n v c hlt hc hc2 (by omega)) ?_
      by_cases h9 : n = 9 ∧ 1 < c % 128
      · rw [if_pos (.inr (.inl h9)), decide_eq_true h9]
        exact Ev.step (f := fun _ => some (0, 0, 4)) (fun k => by simp only [num_short.j1]; rw [if_pos trivial]) (Ev.now _)
      · rw [decide_eq_false h9]
        refine Ev.step (f := fun k => num_short.j2 k L v ((n + 1 : Nat) : Int) ((7 * n : Nat) : Int) c ((c % 128 : Nat) : Int) (decide (0 < n ∧ c = 0))) (fun k => by
          simp only [num_short.j1]
          rw [if_neg (by decide)]
          by_cases h0 : c = 0
          · rw [if_pos (by omega)]; congr 1; exact decide_eq_decide.mpr (by omega)
          · rw [if_neg (by omega), decide_eq_false (by omega)]) ?_
        by_cases h0 : 0 < n ∧ c = 0
        · rw [if_pos (.inr (.inr ⟨h0.1, by omega⟩)), decide_eq_true h0]
          exact Ev.step (f := fun _ => some (0, 0, 4)) (fun k => by simp only [num_short.j2]; rw [if_pos trivial]) (Ev.now _)
        · rw [if_neg (by rintro (h | h | h); exact hN h; exact h9 h; exact h0 ⟨h.1, by omega⟩), decide_eq_false h0]
          have hor := sh_or (c := c) (n := n) (v := v) (by omega) h9 hv
          have hbd := sh_bound (c := c) (n := n) (v := v) (by omega) h9 hv
          have hu : IntKind.u64.wrap ((7 * n : Nat) : Int) = ((7 * n : Nat) : Int) := u64w_id (by omega) (by omega)
          generalize v + c % 128 * 128 ^ n = v2 at hor hbd ⊢
          by_cases h8 : c < 128
          · rw [if_pos (by omega)]
            exact Ev.step (f := fun _ => some ((v2 : Int), ((n + 1 : Nat) : Int), 0)) (fun k => by simp only [num_short.j2]; rw [if_neg (by decide), if_pos (by rw [hu]; exact Int.natCast_nonneg _), if_pos ((and128 c hc2).2 h8), hor]) (Ev.now _)
          · rw [if_neg (by omega)]
            refine Ev.step (f := fun k => num_short.l0 k L v2 ((n + 1 : Nat) : Int) ((7 * (n + 1) : Nat) : Int)) (fun k => by
              simp only [num_short.j2]
              rw [if_neg (by decide), if_pos (by rw [hu]; exact Int.natCast_nonneg _), if_neg (fun h => h8 ((and128 c hc2).1 h)), hor, w64 (by omega) (by omega)]
              rw [show ((7 * n : Nat) : Int) + 7 = ((7 * (n + 1) : Nat) : Int) by omega]) ?_
            exact ih (n + 1) v2 (by omega) (by omega) hbd.2
theorem short_f (L : List Int) (hw : ∀ x ∈ L, 0 ≤ x ∧ x < 256) (hl : L.length < 4611686018427387904) : Ev (fun k => num_short.f k L) (sh L 0 0) := by
  have := short_l0 L hw hl L.length 0 0 (by omega) (by omega) (by decide)
  rw [List.drop_zero] at this
  exact Ev.congr (fun k => by unfold num_short.f; rfl) this

/-! estreatref01.look: the same -/
theorem look_l1 (L : List Int) (v n low : Nat) (hn : n ≤ 9) {r : Int × Int × Int} : ∀ (d i : Nat), n = i + d → Ev (fun k => estreatref01_look.l1 k L v n low ((128 ^ n : Nat) : Int) n) r → Ev (fun k => estreatref01_look.l1 k L v n low ((128 ^ i : Nat) : Int) i) r := by
  intro d
  induction d with
  | zero => intro i hd h; rw [show i = n by omega]; exact h
  | succ d ih =>
    intro i hd h
    refine Ev.step (f := fun k => estreatref01_look.l1 k L v n low ((128 ^ (i + 1) : Nat) : Int) ((i + 1 : Nat) : Int)) (fun k => ?_) (ih (i + 1) (by omega) h)
    simp only [estreatref01_look.l1]
    rw [if_pos (by omega), w64 (by omega) (by omega)]
    have e : IntKind.u64.wrap (((128 ^ i : Nat) : Int) * 128) = ((128 ^ (i + 1) : Nat) : Int) := by
      rcases (show i = 0 ∨ i = 1 ∨ i = 2 ∨ i = 3 ∨ i = 4 ∨ i = 5 ∨ i = 6 ∨ i = 7 ∨ i = 8 by omega) with rfl | rfl | rfl | rfl | rfl | rfl | rfl | rfl | rfl <;> decide
    rw [e, show ((i : Int) + 1) = ((i + 1 : Nat) : Int) by omega]
theorem look_j (L : List Int) (_ : L.length < 4611686018427387904) (k n v c : Nat) (h : n < L.length) (hc : L[n] = (c : Int)) (hc2 : c < 256) :
    estreatref01_look.l0 (k + 1) L v n = estreatref01_look.j1 k L v n ((c % 128 : Nat) : Int) (decide (9 < n ∨ (n = 9 ∧ 1 < c % 128) ∨ (0 < n ∧ c = 0))) := by
  have hrd : rd L (n : Int) = (c : Int) := by rw [rd_get h, hc]
  have hlow : IntKind.u64.wrap (Int.tmod (c : Int) 128) = ((c % 128 : Nat) : Int) := by rw [Int.tmod_eq_emod_of_nonneg (by omega), u64w_id (by omega) (by omega)]; omega
  have hz : ((c : Int) == 0) = decide (c = 0) := by by_cases h0 : c = 0 <;> simp [h0]
  simp only [estreatref01_look.l0]
  rw [if_pos (by omega), if_pos (by omega), hrd, hlow, hz]
  by_cases h1 : 9 < n
  · rw [if_pos (by omega), decide_eq_true (.inl h1)]
  · rw [if_neg (by omega)]
    by_cases h2 : n = 9
    · rw [if_pos (by omega)]
      by_cases h3 : 1 < c % 128
      · rw [if_pos (by omega), decide_eq_true (.inr (.inl ⟨h2, h3⟩))]
      · rw [if_neg (by omega), if_pos (by omega)]; congr 1; exact decide_eq_decide.mpr (by omega)
    · rw [if_neg (by omega)]
      by_cases h4 : 0 < n
      · rw [if_pos (by omega)]; congr 1; exact decide_eq_decide.mpr (by omega)
      · rw [if_neg (by omega), decide_eq_false (by omega)]
theorem look_l0 (L : List Int) (hw : ∀ x ∈ L, 0 ≤ x ∧ x < 256) (hl : L.length < 4611686018427387904) : ∀ (d n v : Nat), L.length = n + d → n ≤ 10 → v < 128 ^ n → Ev (fun k => estreatref01_look.l0 k L v n) (sh (L.drop n) n v) := by
  intro d
  induction d with
  | zero =>
    intro n v hd hn hv
    rw [List.drop_of_length_le (by omega)]
    exact Ev.step (f := fun _ => some (0, 0, 2)) (fun k => by simp only [estreatref01_look.l0]; rw [if_neg (by omega)]) (Ev.now _)
  | succ d ih =>
    intro n v hd hn hv
    have hlt : n < L.length := by omega
    obtain ⟨c, hc, hc2⟩ : ∃ c : Nat, L[n] = (c : Int) ∧ c < 256 := ⟨L[n].toNat, by have := hw _ (List.getElem_mem hlt); omega, by have := hw _ (List.getElem_mem hlt); omega⟩
    have hrd : rd L (n : Int) = (c : Int) := by rw [rd_get hlt, hc]
    rw [dropc L n hlt, hc]
    simp only [sh, Int.toNat_natCast]
    refine Ev.step (look_j L hl · n v c hlt hc hc2) ?_
    by_cases hE : 9 < n ∨ (n = 9 ∧ 1 < c % 128) ∨ (0 < n ∧ c = 0)
    · rw [if_pos (by omega), decide_eq_true hE]
      exact Ev.step (f := fun _ => some (0, 0, 4)) (fun k => by simp only [estreatref01_look.j1]; rw [if_pos trivial]) (Ev.now _)
    · rw [if_neg (by omega), decide_eq_false hE]
      refine Ev.step (f := fun k => estreatref01_look.l1 k L v n ((c % 128 : Nat) : Int) 1 0) (fun k => by simp only [estreatref01_look.j1]; rw [if_neg (by decide)]) ?_
      refine look_l1 L v n (c % 128) (by omega) n 0 (by omega) ?_
      have hbd := sh_bound (c := c) (n := n) (v := v) (by omega) (by omega) hv
      have hm : IntKind.u64.wrap ((v : Int) + IntKind.u64.wrap (((c % 128 : Nat) : Int) * ((128 ^ n : Nat) : Int))) = ((v + c % 128 * 128 ^ n : Nat) : Int) := by
        rw [← Int.natCast_mul]
        generalize c % 128 * 128 ^ n = q at hbd
        rw [u64w_id (n := (q : Int)) (by omega) (by omega), u64w_id (by omega) (by omega)]; omega
      generalize v + c % 128 * 128 ^ n = v2 at hm hbd ⊢
      by_cases h8 : c < 128
      · rw [if_pos (by omega)]
        exact Ev.step (f := fun _ => some ((v2 : Int), ((n + 1 : Nat) : Int), 0)) (fun k => by simp only [estreatref01_look.l1]; rw [if_neg (by omega), if_pos (by omega), if_pos (by omega), hrd, if_pos (by omega), hm, w64 (by omega) (by omega)]; simp) (Ev.now _)
      · rw [if_neg (by omega)]
        refine Ev.step (f := fun k => estreatref01_look.l0 k L v2 ((n + 1 : Nat) : Int)) (fun k => by simp only [estreatref01_look.l1]; rw [if_neg (by omega), if_pos (by omega), if_pos (by omega), hrd, if_neg (by omega), hm, w64 (by omega) (by omega)]; simp) ?_
        exact ih (n + 1) v2 (by omega) (by omega) hbd.2
theorem look_f (L : List Int) (hw : ∀ x ∈ L, 0 ≤ x ∧ x < 256) (hl : L.length < 4611686018427387904) : Ev (fun k => estreatref01_look.f k L) (sh L 0 0) := by
  have := look_l0 L hw hl L.length 0 0 (by omega) (by omega) (by decide)
  rw [List.drop_zero] at this
  exact Ev.congr (fun k => by unfold estreatref01_look.f; rfl) this

/-! what Var comes to -/
theorem sh_cases : ∀ (l : List Int) (n v : Nat), (∀ x ∈ l, 0 ≤ x ∧ x < 256) → n ≤ 10 → v < 128 ^ n →
    sh l n v = (0, 0, 2) ∨ sh l n v = (0, 0, 4) ∨ ∃ v' m : Nat, sh l n v = ((v' : Int), (m : Int), 0) ∧ n < m ∧ m ≤ n + l.length ∧ v' < 18446744073709551616 := by
  intro l
  induction l with
  | nil => intro n v _ _ _; exact .inl rfl
  | cons b l ih =>
    intro n v hw hn hv
    obtain ⟨c, rfl, hc2⟩ : ∃ c : Nat, b = (c : Int) ∧ c < 256 := ⟨b.toNat, by have := hw b (by simp); omega, by have := hw b (by simp); omega⟩
    simp only [sh, Int.toNat_natCast]
    by_cases hE : 9 < n ∨ (n = 9 ∧ 1 < c % 128) ∨ (0 < n ∧ (c : Int) = 0)
    · rw [if_pos hE]; exact .inr (.inl rfl)
    · rw [if_neg hE]
      have hbd := sh_bound (c := c) (n := n) (v := v) (by omega) (by omega) hv
      generalize v + c % 128 * 128 ^ n = v2 at hbd ⊢
      by_cases h8 : (c : Int) < 128
      · rw [if_pos h8]
        exact .inr (.inr ⟨v2, n + 1, rfl, by omega, by simp only [List.length_cons]; omega, hbd.1⟩)
      · rw [if_neg h8]
        rcases ih (n + 1) v2 (fun x hx => hw x (by simp [hx])) (by omega) hbd.2 with h | h | ⟨v', m, h1, h2, h3, h4⟩
        · exact .inl h
        · exact .inr (.inl h)
        · exact .inr (.inr ⟨v', m, h1, by omega, by simp only [List.length_cons]; omega, h4⟩)
theorem drop_bytes {L : List Int} (hw : ∀ x ∈ L, 0 ≤ x ∧ x < 256) (a : Nat) : ∀ x ∈ L.drop a, 0 ≤ x ∧ x < 256 := fun x hx => hw x (List.mem_of_mem_drop hx)

theorem nvar_ok {b : List Int} (hw : ∀ x ∈ b, 0 ≤ x ∧ x < 256) (hl : b.length < 4611686018427387904) {a v m : Nat} {on : Int} (ha : a ≤ b.length) (h : sh (b.drop a) 0 0 = ((v : Int), (m : Int), 0)) (hm : a + m ≤ b.length) :
    Ev (fun k => num_Reader_Var.f k b a 0 on) ((v : Int), ((a + m : Nat) : Int), 0, on) := by
  have hs := short_f (b.drop a) (drop_bytes hw a) (by rw [List.length_drop]; omega)
  rw [h] at hs
  refine Ev.congr (f := fun k => _) (fun k => by unfold num_Reader_Var.f; rw [if_neg (by simp), if_pos ⟨Int.natCast_nonneg _, by omega⟩, Int.toNat_natCast]) (Ev.bind hs ?_)
  refine ⟨0, fun k _ => ?_⟩
  simp only [num_Reader_Fail.f, num_Reader_Fail.next, Option.bind_some]
  rw [w64 (by omega) (by omega)]
  simp
theorem nvar_err {b : List Int} (hw : ∀ x ∈ b, 0 ≤ x ∧ x < 256) (hl : b.length < 4611686018427387904) {a : Nat} {on x : Int} (ha : a ≤ b.length) (hx : x = 2 ∨ x = 4) (h : sh (b.drop a) 0 0 = (0, 0, x)) :
    Ev (fun k => num_Reader_Var.f k b a 0 on) (0, (a : Int), x, (a : Int)) := by
  have hs := short_f (b.drop a) (drop_bytes hw a) (by rw [List.length_drop]; omega)
  rw [h] at hs
  refine Ev.congr (f := fun k => _) (fun k => by unfold num_Reader_Var.f; rw [if_neg (by simp), if_pos ⟨Int.natCast_nonneg _, by omega⟩, Int.toNat_natCast]) (Ev.bind hs ?_)
  refine ⟨0, fun k _ => ?_⟩
  rcases hx with rfl | rfl
  all_goals
    simp [num_Reader_Fail.f, num_Reader_Fail.next]
    rw [w64 (by omega) (by omega)]


theorem rvar_ok {b : List Int} (hw : ∀ x ∈ b, 0 ≤ x ∧ x < 256) (hl : b.length < 4611686018427387904) {a v m : Nat} {on : Int} (ha : a ≤ b.length) (h : sh (b.drop a) 0 0 = ((v : Int), (m : Int), 0)) (hm : a + m ≤ b.length) :
    Ev (fun k => estreatref01_Reader_Var.f k b a 0 on) ((v : Int), ((a + m : Nat) : Int), 0, on) := by
  have hs := look_f (b.drop a) (drop_bytes hw a) (by rw [List.length_drop]; omega)
  rw [h] at hs
  refine Ev.congr (f := fun k => _) (fun k => by unfold estreatref01_Reader_Var.f; rw [if_neg (by simp), if_pos ⟨Int.natCast_nonneg _, by omega⟩, Int.toNat_natCast]) (Ev.bind hs ?_)
  refine ⟨0, fun k _ => ?_⟩
  simp only [estreatref01_Reader_Fail.f, if_true, Option.bind_some]
  rw [w64 (by omega) (by omega)]
  simp
theorem rvar_err {b : List Int} (hw : ∀ x ∈ b, 0 ≤ x ∧ x < 256) (hl : b.length < 4611686018427387904) {a : Nat} {on x : Int} (ha : a ≤ b.length) (hx : x = 2 ∨ x = 4) (h : sh (b.drop a) 0 0 = (0, 0, x)) :
    Ev (fun k => estreatref01_Reader_Var.f k b a 0 on) (0, (a : Int), x, (a : Int)) := by
  have hs := look_f (b.drop a) (drop_bytes hw a) (by rw [List.length_drop]; omega)
  rw [h] at hs
  refine Ev.congr (f := fun k => _) (fun k => by unfold estreatref01_Reader_Var.f; rw [if_neg (by simp), if_pos ⟨Int.natCast_nonneg _, by omega⟩, Int.toNat_natCast]) (Ev.bind hs ?_)
  refine ⟨0, fun k _ => ?_⟩
  rcases hx with rfl | rfl
  all_goals
    simp [estreatref01_Reader_Fail.f]
    rw [w64 (by omega) (by omega)]

/-! num.PutFix and (num.Reader).Fix -/
theorem orM (t : Nat) {M : Int} (hM : M = ((2 ^ t : Nat) : Int)) (h c : Nat) {A : Int} (hA : A = ((h * 2 ^ (8 + t) : Nat) : Int)) (hc : c < 256) (hb : (h * 256 + c) * 2 ^ t < 18446744073709551616) :
    Go.bits .or .u64 A (IntKind.u64.wrap (IntKind.u64.wrap (c : Int) * M)) = (((h * 256 + c) * 2 ^ t : Nat) : Int) := by
  have e : (h * 256 + c) * 2 ^ t = h * 2 ^ (8 + t) + c * 2 ^ t := by rw [Nat.pow_add, Nat.add_mul, ← Nat.mul_assoc]
  have hlt : c * 2 ^ t < 2 ^ (8 + t) := by rw [Nat.pow_add]; exact Nat.mul_lt_mul_of_pos_right hc (Nat.two_pow_pos t)
  rw [e] at hb ⊢
  rw [hA, hM, u64w_id (n := (c : Int)) (by omega) (by omega), ← Int.natCast_mul, u64w_id (by exact Int.natCast_nonneg _) (Int.ofNat_lt.mpr (Nat.lt_of_le_of_lt (Nat.le_add_left _ _) hb)),
    bits_or_u64_nat _ _ (Nat.lt_of_le_of_lt (Nat.le_add_right _ _) hb) (Nat.lt_of_le_of_lt (Nat.le_add_left _ _) hb), Nat.mul_comm h, ← Nat.two_pow_add_eq_or_of_lt hlt]
theorem orL (h c : Nat) {A : Int} (hA : A = ((h * 256 : Nat) : Int)) (hc : c < 256) (hb : h * 256 + c < 18446744073709551616) :
    Go.bits .or .u64 A (IntKind.u64.wrap (c : Int)) = ((h * 256 + c : Nat) : Int) := by
  have := orM 0 (M := 1) (by rfl) h c (A := A) (by rw [hA, show 2 ^ (8 + 0) = 256 from rfl]) hc (by rw [Nat.pow_zero, Nat.mul_one]; exact hb)
  rw [Int.mul_one, u64w_id (n := IntKind.u64.wrap (c : Int)) (by rw [u64w]; omega) (by rw [u64w]; omega), Nat.pow_zero, Nat.mul_one] at this
  exact this
theorem fixg_1 (k : Nat) (b0 : Nat) (h0 : b0 < 256) {L : List Int} {a e on A E O : Int} (ht : num_Reader_Take.f L a e on 1 = some (([(b0 : Int)] : List Int), A, E, O)) : num_Reader_Fix.j0 (k + 1) 1 false L a e on = some ((((0) * 256 + b0 : Nat) : Int), A, E, O) := by
  simp only [num_Reader_Fix.j0]
  rw [if_neg (by decide), ht, Option.bind_some]
  rw [if_neg (by simp), if_neg (by simp), if_neg (by simp), if_neg (by simp), if_neg (by simp), if_neg (by simp), if_neg (by simp), if_pos (by simp), if_pos (by simp)]
  rw [show rd ([(b0 : Int)] : List Int) 0 = (b0 : Int) from rfl]
  rw [orL (0) b0 (by first | omega | (simp only [Nat.reducePow]; omega) | (simp only [Nat.reducePow]; done)) h0 (by omega)]
theorem fixg_2 (k : Nat) (b0 b1 : Nat) (h0 : b0 < 256) (h1 : b1 < 256) {L : List Int} {a e on A E O : Int} (ht : num_Reader_Take.f L a e on 2 = some (([(b0 : Int), (b1 : Int)] : List Int), A, E, O)) : num_Reader_Fix.j0 (k + 1) 2 false L a e on = some (((((0) * 256 + b1) * 256 + b0 : Nat) : Int), A, E, O) := by
  simp only [num_Reader_Fix.j0]
  rw [if_neg (by decide), ht, Option.bind_some]
  rw [if_neg (by simp), if_neg (by simp), if_neg (by simp), if_neg (by simp), if_neg (by simp), if_neg (by simp), if_pos (by simp), if_pos (by simp), if_pos (by simp)]
  rw [show rd ([(b0 : Int), (b1 : Int)] : List Int) 1 = (b1 : Int) from rfl]
  rw [show rd ([(b0 : Int), (b1 : Int)] : List Int) 0 = (b0 : Int) from rfl]
  rw [orM 8 (by decide) (0) b1 (by first | omega | (simp only [Nat.reducePow]; omega) | (simp only [Nat.reducePow]; done)) h1 (by first | omega | (simp only [Nat.reducePow]; omega) | (simp only [Nat.reducePow]; done))]
  rw [orL ((0) * 256 + b1) b0 (by first | omega | (simp only [Nat.reducePow]; omega) | (simp only [Nat.reducePow]; done)) h0 (by omega)]
theorem fixg_3 (k : Nat) (b0 b1 b2 : Nat) (h0 : b0 < 256) (h1 : b1 < 256) (h2 : b2 < 256) {L : List Int} {a e on A E O : Int} (ht : num_Reader_Take.f L a e on 3 = some (([(b0 : Int), (b1 : Int), (b2 : Int)] : List Int), A, E, O)) : num_Reader_Fix.j0 (k + 1) 3 false L a e on = some ((((((0) * 256 + b2) * 256 + b1) * 256 + b0 : Nat) : Int), A, E, O) := by
  simp only [num_Reader_Fix.j0]
  rw [if_neg (by decide), ht, Option.bind_some]
  rw [if_neg (by simp), if_neg (by simp), if_neg (by simp), if_neg (by simp), if_neg (by simp), if_pos (by simp), if_pos (by simp), if_pos (by simp), if_pos (by simp)]
  rw [show rd ([(b0 : Int), (b1 : Int), (b2 : Int)] : List Int) 2 = (b2 : Int) from rfl]
  rw [show rd ([(b0 : Int), (b1 : Int), (b2 : Int)] : List Int) 1 = (b1 : Int) from rfl]
  rw [show rd ([(b0 : Int), (b1 : Int), (b2 : Int)] : List Int) 0 = (b0 : Int) from rfl]
  rw [orM 16 (by decide) (0) b2 (by first | omega | (simp only [Nat.reducePow]; omega) | (simp only [Nat.reducePow]; done)) h2 (by first | omega | (simp only [Nat.reducePow]; omega) | (simp only [Nat.reducePow]; done))]
  rw [orM 8 (by decide) ((0) * 256 + b2) b1 (by first | omega | (simp only [Nat.reducePow]; omega) | (simp only [Nat.reducePow]; done)) h1 (by first | omega | (simp only [Nat.reducePow]; omega) | (simp only [Nat.reducePow]; done))]
  rw [orL (((0) * 256 + b2) * 256 + b1) b0 (by first | omega | (simp only [Nat.reducePow]; omega) | (simp only [Nat.reducePow]; done)) h0 (by omega)]
theorem fixg_4 (k : Nat) (b0 b1 b2 b3 : Nat) (h0 : b0 < 256) (h1 : b1 < 256) (h2 : b2 < 256) (h3 : b3 < 256) {L : List Int} {a e on A E O : Int} (ht : num_Reader_Take.f L a e on 4 = some (([(b0 : Int), (b1 : Int), (b2 : Int), (b3 : Int)] : List Int), A, E, O)) : num_Reader_Fix.j0 (k + 1) 4 false L a e on = some (((((((0) * 256 + b3) * 256 + b2) * 256 + b1) * 256 + b0 : Nat) : Int), A, E, O) := by
  simp only [num_Reader_Fix.j0]
  rw [if_neg (by decide), ht, Option.bind_some]
  rw [if_neg (by simp), if_neg (by simp), if_neg (by simp), if_neg (by simp), if_pos (by simp), if_pos (by simp), if_pos (by simp), if_pos (by simp), if_pos (by simp)]
  rw [show rd ([(b0 : Int), (b1 : Int), (b2 : Int), (b3 : Int)] : List Int) 3 = (b3 : Int) from rfl]
  rw [show rd ([(b0 : Int), (b1 : Int), (b2 : Int), (b3 : Int)] : List Int) 2 = (b2 : Int) from rfl]
  rw [show rd ([(b0 : Int), (b1 : Int), (b2 : Int), (b3 : Int)] : List Int) 1 = (b1 : Int) from rfl]
  rw [show rd ([(b0 : Int), (b1 : Int), (b2 : Int), (b3 : Int)] : List Int) 0 = (b0 : Int) from rfl]
  rw [orM 24 (by decide) (0) b3 (by first | omega | (simp only [Nat.reducePow]; omega) | (simp only [Nat.reducePow]; done)) h3 (by first | omega | (simp only [Nat.reducePow]; omega) | (simp only [Nat.reducePow]; done))]
  rw [orM 16 (by decide) ((0) * 256 + b3) b2 (by first | omega | (simp only [Nat.reducePow]; omega) | (simp only [Nat.reducePow]; done)) h2 (by first | omega | (simp only [Nat.reducePow]; omega) | (simp only [Nat.reducePow]; done))]
  rw [orM 8 (by decide) (((0) * 256 + b3) * 256 + b2) b1 (by first | omega | (simp only [Nat.reducePow]; omega) | (simp only [Nat.reducePow]; done)) h1 (by first | omega | (simp only [Nat.reducePow]; omega) | (simp only [Nat.reducePow]; done))]
  rw [orL ((((0) * 256 + b3) * 256 + b2) * 256 + b1) b0 (by first | omega | (simp only [Nat.reducePow]; omega) | (simp only [Nat.reducePow]; done)) h0 (by omega)]
theorem fixg_5 (k : Nat) (b0 b1 b2 b3 b4 : Nat) (h0 : b0 < 256) (h1 : b1 < 256) (h2 : b2 < 256) (h3 : b3 < 256) (h4 : b4 < 256) {L : List Int} {a e on A E O : Int} (ht : num_Reader_Take.f L a e on 5 = some (([(b0 : Int), (b1 : Int), (b2 : Int), (b3 : Int), (b4 : Int)] : List Int), A, E, O)) : num_Reader_Fix.j0 (k + 1) 5 false L a e on = some ((((((((0) * 256 + b4) * 256 + b3) * 256 + b2) * 256 + b1) * 256 + b0 : Nat) : Int), A, E, O) := by
  simp only [num_Reader_Fix.j0]
  rw [if_neg (by decide), ht, Option.bind_some]
  rw [if_neg (by simp), if_neg (by simp), if_neg (by simp), if_pos (by simp), if_pos (by simp), if_pos (by simp), if_pos (by simp), if_pos (by simp), if_pos (by simp)]
  rw [show rd ([(b0 : Int), (b1 : Int), (b2 : Int), (b3 : Int), (b4 : Int)] : List Int) 4 = (b4 : Int) from rfl]
  rw [show rd ([(b0 : Int), (b1 : Int), (b2 : Int), (b3 : Int), (b4 : Int)] : List Int) 3 = (b3 : Int) from rfl]
  rw [show rd ([(b0 : Int), (b1 : Int), (b2 : Int), (b3 : Int), (b4 : Int)] : List Int) 2 = (b2 : Int) from rfl]
  rw [show rd ([(b0 : Int), (b1 : Int), (b2 : Int), (b3 : Int), (b4 : Int)] : List Int) 1 = (b1 : Int) from rfl]
  rw [show rd ([(b0 : Int), (b1 : Int), (b2 : Int), (b3 : Int), (b4 : Int)] : List Int) 0 = (b0 : Int) from rfl]
  rw [orM 32 (by decide) (0) b4 (by first | omega | (simp only [Nat.reducePow]; omega) | (simp only [Nat.reducePow]; done)) h4 (by first | omega | (simp only [Nat.reducePow]; omega) | (simp only [Nat.reducePow]; done))]
  rw [orM 24 (by decide) ((0) * 256 + b4) b3 (by first | omega | (simp only [Nat.reducePow]; omega) | (simp only [Nat.reducePow]; done)) h3 (by first | omega | (simp only [Nat.reducePow]; omega) | (simp only [Nat.reducePow]; done))]
  rw [orM 16 (by decide) (((0) * 256 + b4) * 256 + b3) b2 (by first | omega | (simp only [Nat.reducePow]; omega) | (simp only [Nat.reducePow]; done)) h2 (by first | omega | (simp only [Nat.reducePow]; omega) | (simp only [Nat.reducePow]; done))]
  rw [orM 8 (by decide) ((((0) * 256 + b4) * 256 + b3) * 256 + b2) b1 (by first | omega | (simp only [Nat.reducePow]; omega) | (simp only [Nat.reducePow]; done)) h1 (by first | omega | (simp only [Nat.reducePow]; omega) | (simp only [Nat.reducePow]; done))]
  rw [orL (((((0) * 256 + b4) * 256 + b3) * 256 + b2) * 256 + b1) b0 (by first | omega | (simp only [Nat.reducePow]; omega) | (simp only [Nat.reducePow]; done)) h0 (by omega)]
theorem fixg_6 (k : Nat) (b0 b1 b2 b3 b4 b5 : Nat) (h0 : b0 < 256) (h1 : b1 < 256) (h2 : b2 < 256) (h3 : b3 < 256) (h4 : b4 < 256) (h5 : b5 < 256) {L : List Int} {a e on A E O : Int} (ht : num_Reader_Take.f L a e on 6 = some (([(b0 : Int), (b1 : Int), (b2 : Int), (b3 : Int), (b4 : Int), (b5 : Int)] : List Int), A, E, O)) : num_Reader_Fix.j0 (k + 1) 6 false L a e on = some (((((((((0) * 256 + b5) * 256 + b4) * 256 + b3) * 256 + b2) * 256 + b1) * 256 + b0 : Nat) : Int), A, E, O) := by
  simp only [num_Reader_Fix.j0]
  rw [if_neg (by decide), ht, Option.bind_some]
  rw [if_neg (by simp), if_neg (by simp), if_pos (by simp), if_pos (by simp), if_pos (by simp), if_pos (by simp), if_pos (by simp), if_pos (by simp), if_pos (by simp)]
  rw [show rd ([(b0 : Int), (b1 : Int), (b2 : Int), (b3 : Int), (b4 : Int), (b5 : Int)] : List Int) 5 = (b5 : Int) from rfl]
  rw [show rd ([(b0 : Int), (b1 : Int), (b2 : Int), (b3 : Int), (b4 : Int), (b5 : Int)] : List Int) 4 = (b4 : Int) from rfl]
  rw [show rd ([(b0 : Int), (b1 : Int), (b2 : Int), (b3 : Int), (b4 : Int), (b5 : Int)] : List Int) 3 = (b3 : Int) from rfl]
  rw [show rd ([(b0 : Int), (b1 : Int), (b2 : Int), (b3 : Int), (b4 : Int), (b5 : Int)] : List Int) 2 = (b2 : Int) from rfl]
  rw [show rd ([(b0 : Int), (b1 : Int), (b2 : Int), (b3 : Int), (b4 : Int), (b5 : Int)] : List Int) 1 = (b1 : Int) from rfl]
  rw [show rd ([(b0 : Int), (b1 : Int), (b2 : Int), (b3 : Int), (b4 : Int), (b5 : Int)] : List Int) 0 = (b0 : Int) from rfl]
  rw [orM 40 (by decide) (0) b5 (by first | omega | (simp only [Nat.reducePow]; omega) | (simp only [Nat.reducePow]; done)) h5 (by first | omega | (simp only [Nat.reducePow]; omega) | (simp only [Nat.reducePow]; done))]
  rw [orM 32 (by decide) ((0) * 256 + b5) b4 (by first | omega | (simp only [Nat.reducePow]; omega) | (simp only [Nat.reducePow]; done)) h4 (by first | omega | (simp only [Nat.reducePow]; omega) | (simp only [Nat.reducePow]; done))]
  rw [orM 24 (by decide) (((0) * 256 + b5) * 256 + b4) b3 (by first | omega | (simp only [Nat.reducePow]; omega) | (simp only [Nat.reducePow]; done)) h3 (by first | omega | (simp only [Nat.reducePow]; omega) | (simp only [Nat.reducePow]; done))]
  rw [orM 16 (by decide) ((((0) * 256 + b5) * 256 + b4) * 256 + b3) b2 (by first | omega | (simp only [Nat.reducePow]; omega) | (simp only [Nat.reducePow]; done)) h2 (by first | omega | (simp only [Nat.reducePow]; omega) | (simp only [Nat.reducePow]; done))]
  rw [orM 8 (by decide) (((((0) * 256 + b5) * 256 + b4) * 256 + b3) * 256 + b2) b1 (by first | omega | (simp only [Nat.reducePow]; omega) | (simp only [Nat.reducePow]; done)) h1 (by first | omega | (simp only [Nat.reducePow]; omega) | (simp only [Nat.reducePow]; done))]
  rw [orL ((((((0) * 256 + b5) * 256 + b4) * 256 + b3) * 256 + b2) * 256 + b1) b0 (by first | omega | (simp only [Nat.reducePow]; omega) | (simp only [Nat.reducePow]; done)) h0 (by omega)]
theorem fixg_7 (k : Nat) (b0 b1 b2 b3 b4 b5 b6 : Nat) (h0 : b0 < 256) (h1 : b1 < 256) (h2 : b2 < 256) (h3 : b3 < 256) (h4 : b4 < 256) (h5 : b5 < 256) (h6 : b6 < 256) {L : List Int} {a e on A E O : Int} (ht : num_Reader_Take.f L a e on 7 = some (([(b0 : Int), (b1 : Int), (b2 : Int), (b3 : Int), (b4 : Int), (b5 : Int), (b6 : Int)] : List Int), A, E, O)) : num_Reader_Fix.j0 (k + 1) 7 false L a e on = some ((((((((((0) * 256 + b6) * 256 + b5) * 256 + b4) * 256 + b3) * 256 + b2) * 256 + b1) * 256 + b0 : Nat) : Int), A, E, O) := by
  simp only [num_Reader_Fix.j0]
  rw [if_neg (by decide), ht, Option.bind_some]
  rw [if_neg (by simp), if_pos (by simp), if_pos (by simp), if_pos (by simp), if_pos (by simp), if_pos (by simp), if_pos (by simp), if_pos (by simp), if_pos (by simp)]
  rw [show rd ([(b0 : Int), (b1 : Int), (b2 : Int), (b3 : Int), (b4 : Int), (b5 : Int), (b6 : Int)] : List Int) 6 = (b6 : Int) from rfl]
  rw [show rd ([(b0 : Int), (b1 : Int), (b2 : Int), (b3 : Int), (b4 : Int), (b5 : Int), (b6 : Int)] : List Int) 5 = (b5 : Int) from rfl]
  rw [show rd ([(b0 : Int), (b1 : Int), (b2 : Int), (b3 : Int), (b4 : Int), (b5 : Int), (b6 : Int)] : List Int) 4 = (b4 : Int) from rfl]
  rw [show rd ([(b0 : Int), (b1 : Int), (b2 : Int), (b3 : Int), (b4 : Int), (b5 : Int), (b6 : Int)] : List Int) 3 = (b3 : Int) from rfl]
  rw [show rd ([(b0 : Int), (b1 : Int), (b2 : Int), (b3 : Int), (b4 : Int), (b5 : Int), (b6 : Int)] : List Int) 2 = (b2 : Int) from rfl]
  rw [show rd ([(b0 : Int), (b1 : Int), (b2 : Int), (b3 : Int), (b4 : Int), (b5 : Int), (b6 : Int)] : List Int) 1 = (b1 : Int) from rfl]
  rw [show rd ([(b0 : Int), (b1 : Int), (b2 : Int), (b3 : Int), (b4 : Int), (b5 : Int), (b6 : Int)] : List Int) 0 = (b0 : Int) from rfl]
  rw [orM 48 (by decide) (0) b6 (by first | omega | (simp only [Nat.reducePow]; omega) | (simp only [Nat.reducePow]; done)) h6 (by first | omega | (simp only [Nat.reducePow]; omega) | (simp only [Nat.reducePow]; done))]
  rw [orM 40 (by decide) ((0) * 256 + b6) b5 (by first | omega | (simp only [Nat.reducePow]; omega) | (simp only [Nat.reducePow]; done)) h5 (by first | omega | (simp only [Nat.reducePow]; omega) | (simp only [Nat.reducePow]; done))]
  rw [orM 32 (by decide) (((0) * 256 + b6) * 256 + b5) b4 (by first | omega | (simp only [Nat.reducePow]; omega) | (simp only [Nat.reducePow]; done)) h4 (by first | omega | (simp only [Nat.reducePow]; omega) | (simp only [Nat.reducePow]; done))]
  rw [orM 24 (by decide) ((((0) * 256 + b6) * 256 + b5) * 256 + b4) b3 (by first | omega | (simp only [Nat.reducePow]; omega) | (simp only [Nat.reducePow]; done)) h3 (by first | omega | (simp only [Nat.reducePow]; omega) | (simp only [Nat.reducePow]; done))]
  rw [orM 16 (by decide) (((((0) * 256 + b6) * 256 + b5) * 256 + b4) * 256 + b3) b2 (by first | omega | (simp only [Nat.reducePow]; omega) | (simp only [Nat.reducePow]; done)) h2 (by first | omega | (simp only [Nat.reducePow]; omega) | (simp only [Nat.reducePow]; done))]
  rw [orM 8 (by decide) ((((((0) * 256 + b6) * 256 + b5) * 256 + b4) * 256 + b3) * 256 + b2) b1 (by first | omega | (simp only [Nat.reducePow]; omega) | (simp only [Nat.reducePow]; done)) h1 (by first | omega | (simp only [Nat.reducePow]; omega) | (simp only [Nat.reducePow]; done))]
  rw [orL (((((((0) * 256 + b6) * 256 + b5) * 256 + b4) * 256 + b3) * 256 + b2) * 256 + b1) b0 (by first | omega | (simp only [Nat.reducePow]; omega) | (simp only [Nat.reducePow]; done)) h0 (by omega)]
theorem fixg_8 (k : Nat) (b0 b1 b2 b3 b4 b5 b6 b7 : Nat) (h0 : b0 < 256) (h1 : b1 < 256) (h2 : b2 < 256) (h3 : b3 < 256) (h4 : b4 < 256) (h5 : b5 < 256) (h6 : b6 < 256) (h7 : b7 < 256) {L : List Int} {a e on A E O : Int} (ht : num_Reader_Take.f L a e on 8 = some (([(b0 : Int), (b1 : Int), (b2 : Int), (b3 : Int), (b4 : Int), (b5 : Int), (b6 : Int), (b7 : Int)] : List Int), A, E, O)) : num_Reader_Fix.j0 (k + 1) 8 false L a e on = some (((((((((((0) * 256 + b7) * 256 + b6) * 256 + b5) * 256 + b4) * 256 + b3) * 256 + b2) * 256 + b1) * 256 + b0 : Nat) : Int), A, E, O) := by
  simp only [num_Reader_Fix.j0]
  rw [if_neg (by decide), ht, Option.bind_some]
  rw [if_pos (by simp), if_pos (by simp), if_pos (by simp), if_pos (by simp), if_pos (by simp), if_pos (by simp), if_pos (by simp), if_pos (by simp), if_pos (by simp)]
  rw [show rd ([(b0 : Int), (b1 : Int), (b2 : Int), (b3 : Int), (b4 : Int), (b5 : Int), (b6 : Int), (b7 : Int)] : List Int) 7 = (b7 : Int) from rfl]
  rw [show rd ([(b0 : Int), (b1 : Int), (b2 : Int), (b3 : Int), (b4 : Int), (b5 : Int), (b6 : Int), (b7 : Int)] : List Int) 6 = (b6 : Int) from rfl]
  rw [show rd ([(b0 : Int), (b1 : Int), (b2 : Int), (b3 : Int), (b4 : Int), (b5 : Int), (b6 : Int), (b7 : Int)] : List Int) 5 = (b5 : Int) from rfl]
  rw [show rd ([(b0 : Int), (b1 : Int), (b2 : Int), (b3 : Int), (b4 : Int), (b5 : Int), (b6 : Int), (b7 : Int)] : List Int) 4 = (b4 : Int) from rfl]
  rw [show rd ([(b0 : Int), (b1 : Int), (b2 : Int), (b3 : Int), (b4 : Int), (b5 : Int), (b6 : Int), (b7 : Int)] : List Int) 3 = (b3 : Int) from rfl]
  rw [show rd ([(b0 : Int), (b1 : Int), (b2 : Int), (b3 : Int), (b4 : Int), (b5 : Int), (b6 : Int), (b7 : Int)] : List Int) 2 = (b2 : Int) from rfl]
  rw [show rd ([(b0 : Int), (b1 : Int), (b2 : Int), (b3 : Int), (b4 : Int), (b5 : Int), (b6 : Int), (b7 : Int)] : List Int) 1 = (b1 : Int) from rfl]
  rw [show rd ([(b0 : Int), (b1 : Int), (b2 : Int), (b3 : Int), (b4 : Int), (b5 : Int), (b6 : Int), (b7 : Int)] : List Int) 0 = (b0 : Int) from rfl]
  rw [orM 56 (by decide) (0) b7 (by first | omega | (simp only [Nat.reducePow]; omega) | (simp only [Nat.reducePow]; done)) h7 (by first | omega | (simp only [Nat.reducePow]; omega) | (simp only [Nat.reducePow]; done))]
  rw [orM 48 (by decide) ((0) * 256 + b7) b6 (by first | omega | (simp only [Nat.reducePow]; omega) | (simp only [Nat.reducePow]; done)) h6 (by first | omega | (simp only [Nat.reducePow]; omega) | (simp only [Nat.reducePow]; done))]
  rw [orM 40 (by decide) (((0) * 256 + b7) * 256 + b6) b5 (by first | omega | (simp only [Nat.reducePow]; omega) | (simp only [Nat.reducePow]; done)) h5 (by first | omega | (simp only [Nat.reducePow]; omega) | (simp only [Nat.reducePow]; done))]
  rw [orM 32 (by decide) ((((0) * 256 + b7) * 256 + b6) * 256 + b5) b4 (by first | omega | (simp only [Nat.reducePow]; omega) | (simp only [Nat.reducePow]; done)) h4 (by first | omega | (simp only [Nat.reducePow]; omega) | (simp only [Nat.reducePow]; done))]
  rw [orM 24 (by decide) (((((0) * 256 + b7) * 256 + b6) * 256 + b5) * 256 + b4) b3 (by first | omega | (simp only [Nat.reducePow]; omega) | (simp only [Nat.reducePow]; done)) h3 (by first | omega | (simp only [Nat.reducePow]; omega) | (simp only [Nat.reducePow]; done))]
  rw [orM 16 (by decide) ((((((0) * 256 + b7) * 256 + b6) * 256 + b5) * 256 + b4) * 256 + b3) b2 (by first | omega | (simp only [Nat.reducePow]; omega) | (simp only [Nat.reducePow]; done)) h2 (by first | omega | (simp only [Nat.reducePow]; omega) | (simp only [Nat.reducePow]; done))]
  rw [orM 8 (by decide) (((((((0) * 256 + b7) * 256 + b6) * 256 + b5) * 256 + b4) * 256 + b3) * 256 + b2) b1 (by first | omega | (simp only [Nat.reducePow]; omega) | (simp only [Nat.reducePow]; done)) h1 (by first | omega | (simp only [Nat.reducePow]; omega) | (simp only [Nat.reducePow]; done))]
  rw [orL ((((((((0) * 256 + b7) * 256 + b6) * 256 + b5) * 256 + b4) * 256 + b3) * 256 + b2) * 256 + b1) b0 (by first | omega | (simp only [Nat.reducePow]; omega) | (simp only [Nat.reducePow]; done)) h0 (by omega)]

/-! NumReads: what one ask does to both readers -/
theorem take_same (b : List Int) (a e on n : Int) : num_Reader_Take.f b a e on n = estreatref01_Reader_Take.f b a e on n := rfl
/-- A reader's state that both are in. -/
def Rd (b : List Int) (a : Int) (e on : Int) : Prop := (∃ i : Nat, a = i ∧ i ≤ b.length) ∧ (e = 0 → on = 0)
theorem take_ev {b : List Int} (hl : b.length ≤ 1000) {a e on : Int} (h : Rd b a e on) (n : Int) : ∃ r a' e' on', num_Reader_Take.f b a e on n = some (r, a', e', on') ∧ Rd b a' e' on' ∧ (r = [] ∨ 0 ≤ n ∧ r.length = n.toNat) ∧ (∀ x ∈ r, x ∈ b) := by
  obtain ⟨⟨i, rfl, hi⟩, ho⟩ := h
  unfold num_Reader_Take.f
  rw [if_pos ⟨by omega, by omega, by omega⟩]
  by_cases h1 : e ≠ 0
  · rw [if_pos h1]; exact ⟨_, _, _, _, rfl, ⟨⟨i, rfl, hi⟩, ho⟩, .inl rfl, by simp⟩
  rw [if_neg h1]
  by_cases h2 : n < 0
  · rw [if_pos h2]; exact ⟨_, _, _, _, rfl, ⟨⟨i, rfl, hi⟩, fun h => by cases h⟩, .inl rfl, by simp⟩
  rw [if_neg h2]
  by_cases h3 : (b.length : Int) - i < n
  · rw [if_pos h3]; exact ⟨_, _, _, _, rfl, ⟨⟨i, rfl, hi⟩, fun h => by cases h⟩, .inl rfl, by simp⟩
  rw [if_neg h3]
  refine ⟨_, _, _, _, rfl, ⟨⟨i + n.toNat, by omega, by omega⟩, fun _ => ho (by omega)⟩, .inr ⟨by omega, by simp; omega⟩, fun x hx => List.mem_of_mem_drop (List.mem_of_mem_take hx)⟩
theorem take_le {b : List Int} (hl : b.length ≤ 1000) {a e on : Int} (h : Rd b a e on) (n : Int) {r : List Int} {a' e' on' : Int} (hf : num_Reader_Take.f b a e on n = some (r, a', e', on')) : r.length ≤ 1000 := by
  obtain ⟨⟨i, rfl, hi⟩, ho⟩ := h
  unfold num_Reader_Take.f at hf
  rw [if_pos ⟨by omega, by omega, by omega⟩] at hf
  split at hf
  · injection hf with hf; rw [Prod.mk.injEq] at hf; rw [← hf.1]; simp
  split at hf
  · injection hf with hf; rw [Prod.mk.injEq] at hf; rw [← hf.1]; simp
  split at hf
  · injection hf with hf; rw [Prod.mk.injEq] at hf; rw [← hf.1]; simp
  · injection hf with hf; rw [Prod.mk.injEq] at hf; rw [← hf.1]; simp; omega
theorem var_ev {b : List Int} (hw : ∀ x ∈ b, 0 ≤ x ∧ x < 256) (hl : b.length ≤ 1000) {a e on : Int} (h : Rd b a e on) :
    ∃ v a' e' on', Rd b a' e' on' ∧ Ev (fun k => num_Reader_Var.f k b a e on) (v, a', e', on') ∧ Ev (fun k => estreatref01_Reader_Var.f k b a e on) (v, a', e', on') := by
  obtain ⟨⟨i, rfl, hi⟩, ho⟩ := h
  by_cases h1 : e = 0
  · subst h1
    rcases sh_cases (b.drop i) 0 0 (drop_bytes hw i) (by omega) (by decide) with h | h | ⟨v, m, h, g1, g2, hv⟩
    · exact ⟨_, _, _, _, ⟨⟨i, rfl, hi⟩, fun h => by cases h⟩, nvar_err hw (by omega) hi (.inl rfl) h, rvar_err hw (by omega) hi (.inl rfl) h⟩
    · exact ⟨_, _, _, _, ⟨⟨i, rfl, hi⟩, fun h => by cases h⟩, nvar_err hw (by omega) hi (.inr rfl) h, rvar_err hw (by omega) hi (.inr rfl) h⟩
    · rw [List.length_drop] at g2
      exact ⟨_, _, _, _, ⟨⟨i + m, rfl, by omega⟩, ho⟩, nvar_ok hw (by omega) hi h (by omega), rvar_ok hw (by omega) hi h (by omega)⟩
  · refine ⟨0, i, e, on, ⟨⟨i, rfl, hi⟩, ho⟩, ⟨0, fun k _ => ?_⟩, ⟨0, fun k _ => ?_⟩⟩
    · show num_Reader_Var.f k b i e on = _
      unfold num_Reader_Var.f; rw [if_pos h1]
    · show estreatref01_Reader_Var.f k b i e on = _
      unfold estreatref01_Reader_Var.f; rw [if_pos h1]
theorem blob_ev {b : List Int} (hw : ∀ x ∈ b, 0 ≤ x ∧ x < 256) (hl : b.length ≤ 1000) {a e on : Int} (h : Rd b a e on) (n : Int) :
    ∃ r a' e' on', Rd b a' e' on' ∧ r.length ≤ 1000 ∧ Ev (fun k => num_Reader_Blob.f k b a e on n) (r, a', e', on') ∧ Ev (fun k => estreatref01_Reader_Blob.f k b a e on n) (r, a', e', on') := by
  obtain ⟨⟨i, rfl, hi⟩, ho⟩ := h
  by_cases h1 : e = 0
  case neg =>
    refine ⟨[], i, e, on, ⟨⟨i, rfl, hi⟩, ho⟩, by simp, ⟨0, fun k _ => ?_⟩, ⟨0, fun k _ => ?_⟩⟩
    · show num_Reader_Blob.f k b i e on n = _
      unfold num_Reader_Blob.f; rw [if_pos h1]
    · show estreatref01_Reader_Blob.f k b i e on n = _
      unfold estreatref01_Reader_Blob.f; rw [if_pos h1]
  subst h1
  have hs := short_f (b.drop i) (drop_bytes hw i) (by rw [List.length_drop]; omega)
  have hk := look_f (b.drop i) (drop_bytes hw i) (by rw [List.length_drop]; omega)
  have c0 : 0 ≤ (i : Int) ∧ (i : Int) ≤ (b.length : Int) ∧ (b.length : Int) ≤ 140737488355328 := ⟨by omega, by omega, by omega⟩
  unfold num_Reader_Blob.f estreatref01_Reader_Blob.f
  simp only [if_neg (show ¬ ((0 : Int) ≠ 0) by simp), if_pos c0, Int.toNat_natCast]
  rcases sh_cases (b.drop i) 0 0 (drop_bytes hw i) (by omega) (by decide) with h | h | ⟨v, m, h, g1, g2, hv⟩
  · rw [h] at hs hk
    refine ⟨[], i, 2, i, ⟨⟨i, rfl, hi⟩, fun h => by cases h⟩, by simp, Ev.bind hs ?_, Ev.bind hk ?_⟩
    all_goals
      simp only [if_pos (show ((2 : Int) ≠ 0) by decide)]
      exact Ev.now _
  · rw [h] at hs hk
    refine ⟨[], i, 4, i, ⟨⟨i, rfl, hi⟩, fun h => by cases h⟩, by simp, Ev.bind hs ?_, Ev.bind hk ?_⟩
    all_goals
      simp only [if_pos (show ((4 : Int) ≠ 0) by decide)]
      exact Ev.now _
  · rw [List.length_drop] at g2
    rw [h] at hs hk
    have e1 : 0 ≤ (m : Int) ∧ (i : Int) + (m : Int) ≤ (b.length : Int) ∧ 0 ≤ (v : Int) ∧ (v : Int) < 18446744073709551616 := ⟨by omega, by omega, by omega, by omega⟩
    by_cases h2 : n < 0 ∨ IntKind.u64.wrap n < (v : Int)
    · refine ⟨[], i, 12, i, ⟨⟨i, rfl, hi⟩, fun h => by cases h⟩, by simp, Ev.bind hs ?_, Ev.bind hk ?_⟩
      all_goals
        simp only [if_neg (show ¬ ((0 : Int) ≠ 0) by simp), if_pos e1, if_pos h2]
        exact Ev.now _
    by_cases h3 : (b.length : Int) - i - m < v
    · refine ⟨[], i, 2, i, ⟨⟨i, rfl, hi⟩, fun h => by cases h⟩, by simp, Ev.bind hs ?_, Ev.bind hk ?_⟩
      all_goals
        simp only [if_neg (show ¬ ((0 : Int) ≠ 0) by simp), if_pos e1, if_neg h2, if_pos h3]
        exact Ev.now _
    have hR : Rd b ((i : Int) + m) 0 on := ⟨⟨i + m, by omega, by omega⟩, ho⟩
    obtain ⟨r, a', e', on', ht, hR', hlen, _⟩ := take_ev hl hR (v : Int)
    refine ⟨r, a', e', on', hR', ?_, Ev.bind hs ?_, Ev.bind hk ?_⟩
    · rcases hlen with rfl | ⟨_, h5⟩
      · simp
      · omega
    · simp only [if_neg (show ¬ ((0 : Int) ≠ 0) by simp), if_pos e1, if_neg h2, if_neg h3]
      exact ⟨0, fun k _ => ht⟩
    · simp only [if_neg (show ¬ ((0 : Int) ≠ 0) by simp), if_pos e1, if_neg h2, if_neg h3]
      exact ⟨0, fun k _ => (take_same _ _ _ _ _).symm.trans ht⟩
theorem fail_ev {b : List Int} {a e on : Int} (h : Rd b a e on) (x : Int) : ∃ a' e' on', Rd b a' e' on' ∧ num_Reader_Fail.f b a e on x = some (a', e', on') ∧ estreatref01_Reader_Fail.f b a e on x = some (a', e', on') := by
  obtain ⟨⟨i, rfl, hi⟩, ho⟩ := h
  unfold num_Reader_Fail.f num_Reader_Fail.next estreatref01_Reader_Fail.f
  by_cases h1 : e = 0
  · subst h1
    by_cases h2 : x = 0
    · subst h2
      exact ⟨i, 0, on, ⟨⟨i, rfl, hi⟩, ho⟩, by rw [if_neg (by simp)], by rw [if_pos rfl, if_pos rfl]⟩
    · exact ⟨i, x, i, ⟨⟨i, rfl, hi⟩, fun h => absurd h h2⟩, by rw [if_pos ⟨rfl, h2⟩], by rw [if_pos rfl, if_neg h2]⟩
  · exact ⟨i, e, on, ⟨⟨i, rfl, hi⟩, ho⟩, by rw [if_neg (by simp [h1])], by rw [if_neg h1]⟩
theorem end_ev {b : List Int} (hl : b.length ≤ 1000) {a e on : Int} (h : Rd b a e on) : ∃ x y, num_Reader_End.f b a e on = some (x, y, a, e, on) ∧ estreatref01_Reader_End.f b a e on = some (x, y, a, e, on) := by
  obtain ⟨⟨i, rfl, hi⟩, ho⟩ := h
  unfold num_Reader_End.f estreatref01_Reader_End.f
  rw [w64 (by omega) (by omega)]
  by_cases h1 : e = 0
  · subst h1
    by_cases h2 : (i : Int) < b.length
    · exact ⟨3, i, by rw [if_pos ⟨rfl, by omega⟩], by rw [if_pos rfl, if_pos h2]⟩
    · exact ⟨0, on, by rw [if_neg (by omega)], by rw [if_pos rfl, if_neg h2]⟩
  · exact ⟨e, on, by rw [if_neg (by simp [h1])], by rw [if_neg h1]⟩
/-- Bytes as a number, the least first. -/
def leN : List Nat → Nat
  | [] => 0
  | c :: t => leN t * 256 + c
theorem nats_of {r : List Int} (hw : ∀ x ∈ r, 0 ≤ x ∧ x < 256) : ∃ l : List Nat, r = l.map Int.ofNat ∧ ∀ c ∈ l, c < 256 := by
  refine ⟨r.map Int.toNat, ?_, ?_⟩
  · rw [List.map_map]
    have : ∀ x ∈ r, (Int.ofNat ∘ Int.toNat) x = x := fun x hx => by have := hw x hx; simp; omega
    rw [List.map_congr_left this, List.map_id']
  · intro c hc
    obtain ⟨x, hx, rfl⟩ := List.mem_map.1 hc
    have := hw x hx
    omega
theorem leN_lt : ∀ (l : List Nat), (∀ c ∈ l, c < 256) → leN l < 256 ^ l.length := by
  intro l
  induction l with
  | nil => intro _; decide
  | cons c t ih =>
    intro h
    have h1 := ih (fun x hx => h x (List.mem_cons_of_mem _ hx))
    have h2 := h c List.mem_cons_self
    rw [List.length_cons, Nat.pow_succ]
    unfold leN
    generalize 256 ^ t.length = p at *
    omega
theorem rfix_l0 (l : List Nat) (hc : ∀ c ∈ l, c < 256) (h8 : l.length ≤ 8) (b : List Int) (A E O : Int) : ∀ (d : Nat), d ≤ l.length → Ev (fun k => estreatref01_Reader_Fix.l0 k (l.map Int.ofNat) ((leN (l.drop d) : Nat) : Int) ((d : Int) - 1) b A E O) (((leN l : Nat) : Int), A, E, O) := by
  intro d
  induction d with
  | zero =>
    intro _
    refine Ev.step (fun k => ?_) (Ev.now _)
    simp only [estreatref01_Reader_Fix.l0]
    rw [if_neg (by omega), List.drop_zero]
  | succ d ih =>
    intro hd
    have hn := ih (by omega)
    have e1 : l.drop d = l[d] :: l.drop (d + 1) := List.drop_eq_getElem_cons (by omega)
    rw [e1] at hn
    have hcd := hc l[d] (List.getElem_mem _)
    have hlt := leN_lt (l.drop (d + 1)) (fun c h => hc c (List.mem_of_mem_drop h))
    have hp : 256 ^ (l.drop (d + 1)).length ≤ 256 ^ 7 := Nat.pow_le_pow_right (by decide) (by rw [List.length_drop]; omega)
    have hp7 : (256 : Nat) ^ 7 = 72057594037927936 := by decide
    rw [hp7] at hp
    rw [show leN (l[d] :: l.drop (d + 1)) = leN (l.drop (d + 1)) * 256 + l[d] from rfl] at hn
    generalize leN (l.drop (d + 1)) = q at *
    generalize 256 ^ (l.drop (d + 1)).length = p at *
    refine Ev.step (fun k => ?_) hn
    simp only [estreatref01_Reader_Fix.l0]
    have e2 : ((d + 1 : Nat) : Int) - 1 = (d : Int) := by omega
    rw [e2, if_pos (by omega), if_pos (by omega), if_pos (by simp; omega), rd_get (by simp; omega), List.getElem_map, w64 (by omega) (by omega)]
    rw [u64w_id (n := 256 * (q : Int)) (by omega) (by omega), show (Int.ofNat l[d]) = (l[d] : Int) from rfl, u64w_id (n := (l[d] : Int)) (by omega) (by omega), u64w_id (by omega) (by omega)]
    rw [show (256 : Int) * q + (l[d] : Int) = ((q * 256 + l[d] : Nat) : Int) from by omega]
theorem nfix_j0 (n : Nat) (h8 : n ≤ 8) (l : List Nat) (hc : ∀ c ∈ l, c < 256) (hl : l = [] ∨ l.length = n) {L : List Int} {a e on A E O : Int} (ht : num_Reader_Take.f L a e on n = some (l.map Int.ofNat, A, E, O)) : Ev (fun k => num_Reader_Fix.j0 k n false L a e on) (((leN l : Nat) : Int), A, E, O) := by
  by_cases h0 : l = []
  · subst h0
    refine Ev.step (f := fun _ => some (0, A, E, O)) (fun k => ?_) (Ev.now _)
    simp only [num_Reader_Fix.j0]
    rw [if_neg (by decide), ht, Option.bind_some]
    simp
  · have hl : l.length = n := by rcases hl with h | h; exact absurd h h0; exact h
    refine ⟨1, fun k hk => ?_⟩
    obtain ⟨k, rfl⟩ : ∃ m, k = m + 1 := ⟨k - 1, by omega⟩
    match l, hc, hl, ht, h8 with
    | [b0], hc, rfl, ht, _ => exact fixg_1 k b0 (hc b0 (by simp)) ht
    | [b0, b1], hc, rfl, ht, _ => exact fixg_2 k b0 b1 (hc b0 (by simp)) (hc b1 (by simp)) ht
    | [b0, b1, b2], hc, rfl, ht, _ => exact fixg_3 k b0 b1 b2 (hc b0 (by simp)) (hc b1 (by simp)) (hc b2 (by simp)) ht
    | [b0, b1, b2, b3], hc, rfl, ht, _ => exact fixg_4 k b0 b1 b2 b3 (hc b0 (by simp)) (hc b1 (by simp)) (hc b2 (by simp)) (hc b3 (by simp)) ht
    | [b0, b1, b2, b3, b4], hc, rfl, ht, _ => exact fixg_5 k b0 b1 b2 b3 b4 (hc b0 (by simp)) (hc b1 (by simp)) (hc b2 (by simp)) (hc b3 (by simp)) (hc b4 (by simp)) ht
    | [b0, b1, b2, b3, b4, b5], hc, rfl, ht, _ => exact fixg_6 k b0 b1 b2 b3 b4 b5 (hc b0 (by simp)) (hc b1 (by simp)) (hc b2 (by simp)) (hc b3 (by simp)) (hc b4 (by simp)) (hc b5 (by simp)) ht
    | [b0, b1, b2, b3, b4, b5, b6], hc, rfl, ht, _ => exact fixg_7 k b0 b1 b2 b3 b4 b5 b6 (hc b0 (by simp)) (hc b1 (by simp)) (hc b2 (by simp)) (hc b3 (by simp)) (hc b4 (by simp)) (hc b5 (by simp)) (hc b6 (by simp)) ht
    | [b0, b1, b2, b3, b4, b5, b6, b7], hc, rfl, ht, _ => exact fixg_8 k b0 b1 b2 b3 b4 b5 b6 b7 (hc b0 (by simp)) (hc b1 (by simp)) (hc b2 (by simp)) (hc b3 (by simp)) (hc b4 (by simp)) (hc b5 (by simp)) (hc b6 (by simp)) (hc b7 (by simp)) ht
    | _ :: _ :: _ :: _ :: _ :: _ :: _ :: _ :: _ :: _, _, h, _, h8 => simp at h; omega
theorem fix_ev {b : List Int} (hw : ∀ x ∈ b, 0 ≤ x ∧ x < 256) (hl : b.length ≤ 1000) {a e on : Int} (h : Rd b a e on) (n : Int) :
    ∃ v a' e' on', Rd b a' e' on' ∧ Ev (fun k => num_Reader_Fix.f k b a e on n) (v, a', e', on') ∧ Ev (fun k => estreatref01_Reader_Fix.f k b a e on n) (v, a', e', on') := by
  unfold num_Reader_Fix.f estreatref01_Reader_Fix.f
  by_cases h1 : n < 0 ∨ 8 < n
  · obtain ⟨a', e', on', hR, hf1, hf2⟩ := fail_ev h 1
    have hN : Ev (fun k => num_Reader_Fix.j0 k n true b a e on) (0, a', e', on') := by
      refine Ev.step (f := fun _ => some (0, a', e', on')) (fun k => ?_) (Ev.now _)
      simp only [num_Reader_Fix.j0, num_Reader_ok.f, if_true, Option.bind_some]
      by_cases he : e = 0
      · simp only [he, decide_true, if_true]
        rw [he] at hf1
        rw [hf1]; rfl
      · simp only [he, decide_false, Bool.false_eq_true, if_false]
        unfold num_Reader_Fail.f num_Reader_Fail.next at hf1
        rw [if_neg (by simp [he])] at hf1
        injection hf1 with hf1
        rw [Prod.mk.injEq, Prod.mk.injEq] at hf1
        obtain ⟨rfl, rfl, rfl⟩ := hf1
        rfl
    have hE : Ev (fun k => estreatref01_Reader_Fix.j0 k n true b a e on) (0, a', e', on') := by
      refine Ev.step (f := fun _ => some (0, a', e', on')) (fun k => ?_) (Ev.now _)
      simp only [estreatref01_Reader_Fix.j0, if_true]
      rw [hf2]; rfl
    refine ⟨0, a', e', on', hR, ?_, ?_⟩
    · by_cases h2 : n < 0
      · simp only [if_pos h2]; exact hN
      · simp only [if_neg h2, decide_eq_true (show n > 8 by omega)]; exact hN
    · by_cases h2 : n < 0
      · simp only [if_pos h2]; exact hE
      · simp only [if_neg h2, decide_eq_true (show n > 8 by omega)]; exact hE
  · have h2 : ¬ n < 0 := by omega
    simp only [if_neg h2, decide_eq_false (show ¬ n > 8 by omega)]
    obtain ⟨m, rfl⟩ := Int.eq_ofNat_of_zero_le (show 0 ≤ n by omega)
    obtain ⟨r, a', e', on', ht, hR', hlen, hmem⟩ := take_ev hl h (m : Int)
    obtain ⟨l, rfl, hc⟩ := nats_of (fun x hx => hw x (hmem x hx))
    have hl' : l = [] ∨ l.length = m := by
      rcases hlen with h | ⟨_, h⟩
      · exact .inl (by simpa using h)
      · exact .inr (by simpa using h)
    have hll : l.length ≤ 8 := by rcases hl' with rfl | h; exact Nat.zero_le _; omega
    refine ⟨_, a', e', on', hR', nfix_j0 m (by omega) l hc hl' ht, ?_⟩
    have := rfix_l0 l hc hll b a' e' on' l.length (Nat.le_refl _)
    rw [List.drop_length] at this
    refine Ev.step (fun k => ?_) this
    simp only [estreatref01_Reader_Fix.j0]
    rw [if_neg (by decide), ← take_same, ht, Option.bind_some]
    simp only [List.length_map]
    rw [w64 (by omega) (by omega)]
    rfl

end Go.Proofs.YtjmhfbgpebgcmaaDoor.Pure
