/- What is known of short numbers that are cut off. -/
import Derived.Test.YtjmhfbgpebgcmaaDoorPNumCutx3
import Derived.Test.YtjmhfbgpebgcmaaDoorPNumCutx2
import Derived.Lib.Zigzag
import Derived.Lib.BitFns
namespace Go.Proofs.YtjmhfbgpebgcmaaDoor.Pure
open Go.RowKit Go.Proofs.YtjmhfbgpebgcmaaDoor.PNumCut Go.Proofs.YtjmhfbgpebgcmaaDoorW.PrintWords Go.Proofs.YtjmhfbgpebgcmaaDoorW.PrintLast Go.Proofs.YtjmhfbgpebgcmaaDoorW.PrintMore

/-! words of this session: plain facts on numbers and lists -/
theorem w64 {n : Int} (h0 : -9223372036854775808 ≤ n) (h1 : n ≤ 9223372036854775807) : wrap64 n = n := by unfold wrap64; omega
theorem u64w (n : Int) : IntKind.u64.wrap n = n % 18446744073709551616 := by simp [IntKind.wrap, IntKind.bits, IntKind.signed]
theorem u64w_id {n : Int} (h0 : 0 ≤ n) (h1 : n < 18446744073709551616) : IntKind.u64.wrap n = n := by rw [u64w]; omega
theorem rd_nat (xs : List Int) (i : Nat) : rd xs (i : Int) = xs.getD i 0 := by simp [rd]
theorem rd_get {xs : List Int} {i : Nat} (h : i < xs.length) : rd xs (i : Int) = xs[i] := by simp [rd, h]
theorem wf_i64 {x : Int} (h : (Lit.int .i64 x).wf = true) : -9223372036854775808 ≤ x ∧ x ≤ 9223372036854775807 := by
  simp [Lit.wf, IntKind.min, IntKind.max, IntKind.signed, IntKind.bits] at h; omega
theorem wf_u64 {x : Int} (h : (Lit.int .u64 x).wf = true) : 0 ≤ x ∧ x < 18446744073709551616 := by
  simp [Lit.wf, IntKind.min, IntKind.max, IntKind.signed, IntKind.bits] at h; omega
theorem wf_u8 {x : Int} (h : (Lit.int .u8 x).wf = true) : 0 ≤ x ∧ x < 256 := by
  simp [Lit.wf, IntKind.min, IntKind.max, IntKind.signed, IntKind.bits] at h; omega
theorem dropc {α : Type} (l : List α) (i : Nat) (h : i < l.length) : l.drop i = l[i] :: l.drop (i + 1) := List.drop_eq_getElem_cons h

/-! the short number of a number, and what puts it -/
def leb (v : Nat) : List Int := if h : v < 128 then [(v : Int)] else ((v % 128 + 128 : Nat) : Int) :: leb (v / 128)
theorem leb_small {v : Nat} (h : v < 128) : leb v = [(v : Int)] := by rw [leb, dif_pos h]
theorem leb_big {v : Nat} (h : ¬ v < 128) : leb v = ((v % 128 + 128 : Nat) : Int) :: leb (v / 128) := by rw [leb, dif_neg h]
theorem leb_length : ∀ (n v : Nat), v < 128 ^ (n + 1) → (leb v).length ≤ n + 1 := by
  intro n
  induction n with
  | zero => intro v h; rw [leb_small (by simpa using h)]; simp
  | succ n ih =>
    intro v h
    by_cases hv : v < 128
    · rw [leb_small hv]; simp
    · rw [leb_big hv, List.length_cons]
      have := ih (v / 128) (by rw [Nat.div_lt_iff_lt_mul (by decide)]; rw [Nat.pow_succ] at h; omega)
      omega
theorem p128 : (18446744073709551616 : Nat) < 128 ^ (9 + 1) := by decide
theorem leb_length10 {v : Nat} (h : v < 18446744073709551616) : (leb v).length ≤ 10 := leb_length 9 v (Nat.lt_trans h p128)

theorem putvar_l0 : ∀ (n k v : Nat) (b : List Int), v < 128 ^ (n + 1) → n < k → b.length + n < 140737488355328 → num_PutVar.l0 k b v = some (b ++ leb v) := by
  intro n
  induction n with
  | zero =>
    intro k v b hv hk hb
    obtain ⟨k, rfl⟩ : ∃ m, k = m + 1 := ⟨k - 1, by omega⟩
    simp only [num_PutVar.l0]
    rw [if_neg (by omega), if_pos (by omega), leb_small (by omega)]
    rw [Int.emod_eq_of_lt (by omega) (by omega)]
  | succ n ih =>
    intro k v b hv hk hb
    obtain ⟨k, rfl⟩ : ∃ m, k = m + 1 := ⟨k - 1, by omega⟩
    simp only [num_PutVar.l0]
    by_cases h : v < 128
    · rw [if_neg (by omega), if_pos (by omega), leb_small h, Int.emod_eq_of_lt (by omega) (by omega)]
    · rw [if_pos (by omega), if_pos (by omega), Lib.u8_or128_any _ (by omega) (by omega), leb_big h]
      have e : (v : Int) / 128 = ((v / 128 : Nat) : Int) := by omega
      rw [e, ih k (v / 128) _ (by rw [Nat.div_lt_iff_lt_mul (by decide)]; rw [Nat.pow_succ] at hv; omega) (by omega) (by simp; omega)]
      have e2 : (v : Int) % 256 % 128 + 128 = ((v % 128 + 128 : Nat) : Int) := by omega
      rw [e2]; simp
theorem putvar_f {v : Int} {b : List Int} {k : Nat} (h0 : 0 ≤ v) (h1 : v < 18446744073709551616) (hk : 10 ≤ k) (hb : b.length < 140737488000000) : num_PutVar.f k b v = some (b ++ leb v.toNat) := by
  obtain ⟨n, rfl⟩ := Int.eq_ofNat_of_zero_le h0
  unfold num_PutVar.f
  exact putvar_l0 9 k n b (Nat.lt_trans (by omega) p128) (by omega) (by omega)

/-! estreatref01.Same: are two lists one? -/
theorem same_l0 (xs ys : List Int) (hl : xs.length = ys.length) (hb : xs.length < 9223372036854775807) : ∀ (d k i : Nat), xs.length = i + d → d < k → estreatref01_Same.l0 k xs ys i = some (decide (xs.drop i = ys.drop i)) := by
  intro d
  induction d with
  | zero =>
    intro k i hd hk
    obtain ⟨k, rfl⟩ : ∃ m, k = m + 1 := ⟨k - 1, by omega⟩
    simp only [estreatref01_Same.l0]; rw [if_neg (by omega), List.drop_of_length_le (by omega), List.drop_of_length_le (by omega)]; simp
  | succ d ih =>
    intro k i hd hk
    obtain ⟨k, rfl⟩ : ∃ m, k = m + 1 := ⟨k - 1, by omega⟩
    simp only [estreatref01_Same.l0]
    have := ih k (i + 1) (by omega) (by omega)
    simp only [Int.natCast_add, Int.natCast_one] at this
    rw [if_pos (by omega), if_pos (by omega), if_pos (by omega), rd_get (by omega), rd_get (by omega), w64 (by omega) (by omega), this]
    have ex : xs.drop i = xs[i] :: xs.drop (i + 1) := List.drop_eq_getElem_cons (by omega)
    have ey : ys.drop i = ys[i] :: ys.drop (i + 1) := List.drop_eq_getElem_cons (by omega)
    rw [ex, ey]
    by_cases h : xs[i] = ys[i]
    · rw [if_pos h, h]; simp only [List.cons.injEq, true_and]
    · rw [if_neg h, decide_eq_false]; simp only [List.cons.injEq, h, false_and, not_false_eq_true]
theorem same_f (xs ys : List Int) (hb : xs.length < 9223372036854775807) : ∀ k, xs.length < k → estreatref01_Same.f k xs ys = some (decide (xs = ys)) := by
  intro k hk
  unfold estreatref01_Same.f
  by_cases h : xs.length = ys.length
  · rw [if_pos (by omega)]
    have := same_l0 xs ys h hb xs.length k 0 (by omega) hk
    simpa using this
  · rw [if_neg (by omega)]
    have : xs ≠ ys := fun e => h (by rw [e])
    simp [this]

/-! num.Zig -/
def zz (x : Int) : Int := if 0 ≤ x then 2 * x else -2 * x - 1
theorem zz_range {x : Int} (h0 : -9223372036854775808 ≤ x) (h1 : x ≤ 9223372036854775807) : 0 ≤ zz x ∧ zz x < 18446744073709551616 := by
  unfold zz; split <;> omega
theorem zig_f {x : Int} (h0 : -9223372036854775808 ≤ x) (h1 : x ≤ 9223372036854775807) : num_Zig.f x = some (zz x) := by
  unfold num_Zig.f zz
  by_cases h : 0 ≤ x
  · rw [if_pos h]
    have e1 : IntKind.u64.wrap (IntKind.u64.wrap x * 2) = (((2 * x).toNat : Nat) : Int) := by rw [u64w, u64w]; omega
    have e2 : IntKind.u64.wrap (x / 9223372036854775808) = ((0 : Nat) : Int) := by rw [u64w]; omega
    rw [e1, e2, bits_xor_u64_nat _ _ (by omega) (by omega), Nat.xor_zero]
    congr 1; omega
  · rw [if_neg h]
    have e1 : IntKind.u64.wrap (IntKind.u64.wrap x * 2) = (((2 * x + 18446744073709551616).toNat : Nat) : Int) := by rw [u64w, u64w]; omega
    have e2 : IntKind.u64.wrap (x / 9223372036854775808) = ((2 ^ 64 - 1 : Nat) : Int) := by rw [u64w]; omega
    rw [e1, e2, bits_xor_u64_nat _ _ (by omega) (by decide), Nat.xor_comm, Lib.xor_ones64 _ (by omega)]
    congr 1; omega

/-! the short number that begins bytes: how many bytes it has, or an error -/
def sh : List Int → Nat → Nat → Int × Int × Int
  | [], _, _ => (0, 0, 2)
  | b :: l, n, v =>
    if 9 < n ∨ (n = 9 ∧ 1 < b.toNat % 128) ∨ (0 < n ∧ b = 0) then (0, 0, 4)
    else if b < 128 then (((v + b.toNat % 128 * 128 ^ n : Nat) : Int), ((n + 1 : Nat) : Int), 0)
    else sh l (n + 1) (v + b.toNat % 128 * 128 ^ n)
theorem or_add (v x n : Nat) (h : v < 2 ^ n) : v ||| (x * 2 ^ n) = v + x * 2 ^ n := by
  rw [Nat.or_comm, Nat.mul_comm x, ← Nat.two_pow_add_eq_or_of_lt h, Nat.add_comm]
theorem shl64s {x n : Nat} (hn : n ≤ 64) (h : x * 2 ^ n < 18446744073709551616) : shl .u64 (x : Int) n = ((x * 2 ^ n : Nat) : Int) := by
  unfold shl
  rw [Int.toNat_natCast, show IntKind.u64.bits = 64 from rfl, Nat.min_eq_left hn, show ((x : Int) * 2 ^ n) = ((x * 2 ^ n : Nat) : Int) by simp, u64w_id (Int.natCast_nonneg _) (by omega)]
theorem sh_bound {c n v : Nat} (hn : n ≤ 9) (h9 : ¬ (n = 9 ∧ 1 < c % 128)) (hv : v < 128 ^ n) : v + c % 128 * 128 ^ n < 18446744073709551616 ∧ v + c % 128 * 128 ^ n < 128 ^ (n + 1) := by
  have h9' : n = 9 → c % 128 ≤ 1 := fun h => by omega
  clear h9
  rcases (show n = 0 ∨ n = 1 ∨ n = 2 ∨ n = 3 ∨ n = 4 ∨ n = 5 ∨ n = 6 ∨ n = 7 ∨ n = 8 ∨ n = 9 by omega) with rfl | rfl | rfl | rfl | rfl | rfl | rfl | rfl | rfl | rfl <;> simp only [Nat.reducePow, Nat.reduceAdd] at hv ⊢ <;> first | omega | (have := h9' rfl; omega)
theorem sh_or {c n v : Nat} (hn : n ≤ 9) (h9 : ¬ (n = 9 ∧ 1 < c % 128)) (hv : v < 128 ^ n) : Go.bits .or .u64 (v : Int) (shl .u64 ((c % 128 : Nat) : Int) (IntKind.u64.wrap ((7 * n : Nat) : Int))) = ((v + c % 128 * 128 ^ n : Nat) : Int) := by
  have hb := (sh_bound hn h9 hv).1
  have e : 128 ^ n = 2 ^ (7 * n) := by rw [Nat.pow_mul]
  rw [u64w_id (by omega) (by omega)]
  rw [e] at hb hv ⊢
  rw [shl64s (by omega) (Nat.lt_of_le_of_lt (Nat.le_add_left _ _) hb), bits_or_u64_nat _ _ (Nat.lt_of_le_of_lt (Nat.le_add_right _ _) hb) (Nat.lt_of_le_of_lt (Nat.le_add_left _ _) hb), or_add _ _ _ hv]
theorem and128 : ∀ c : Nat, c < 256 → (Go.bits .and .u8 (c : Int) 128 = 0 ↔ c < 128) := by decide +kernel
theorem and127' : ∀ c : Nat, c < 256 → Go.bits .and .u8 (c : Int) 127 = ((c % 128 : Nat) : Int) := by decide +kernel
theorem and127 {c : Nat} (h : c < 256) : IntKind.u64.wrap (Go.bits .and .u8 (c : Int) 127) = ((c % 128 : Nat) : Int) := by
  rw [and127' c h, u64w_id (by omega) (by omega)]
theorem shr9 {c : Nat} : (shr .u64 ((c % 128 : Nat) : Int) (IntKind.u64.wrap (wrap64 (64 - ((7 * 9 : Nat) : Int)))) != 0) = decide (1 < c % 128) := by
  have e : IntKind.u64.wrap (wrap64 (64 - ((7 * 9 : Nat) : Int))) = 1 := by rw [w64 (by omega) (by omega), u64w_id (by omega) (by omega)]; rfl
  rw [e]; unfold shr
  rw [show (2 : Int) ^ min (1 : Int).toNat IntKind.u64.bits = 2 by decide]
  by_cases h : 1 < c % 128
  · rw [decide_eq_true h, bne_iff_ne]; omega
  · rw [decide_eq_false h]; simp only [bne_eq_false_iff_eq]; omega
theorem short_at (L : List Int) (_ : L.length < 4611686018427387904) (k n v c : Nat) (h : n < L.length) (hc : L[n] = (c : Int)) (hc2 : c < 256) (hn : n ≤ 9) :
    num_short.l0 (k + 1) L v n ((7 * n : Nat) : Int) = num_short.j1 k L v ((n + 1 : Nat) : Int) ((7 * n : Nat) : Int) c ((c % 128 : Nat) : Int) (decide (n = 9 ∧ 1 < c % 128)) := by
  have hrd : rd L (n : Int) = (c : Int) := by rw [rd_get h, hc]
  simp only [num_short.l0]
  rw [if_neg (by omega), if_pos (by omega), if_pos (by omega), if_neg (by omega), hrd, and127 hc2, w64 (n := (n : Int) + 1) (by omega) (by omega), w64 (n := ((7 * n : Nat) : Int) + 7) (by omega) (by omega)]
  rw [show ((n : Int) + 1) = ((n + 1 : Nat) : Int) by omega]
  by_cases h9 : n = 9
  · subst h9
    rw [if_pos (by omega), if_pos (by rw [u64w]; omega), shr9]
    simp
  · rw [if_neg (by omega), decide_eq_false (by omega)]
theorem short_l0 (L : List Int) (hw : ∀ x ∈ L, 0 ≤ x ∧ x < 256) (hl : L.length < 4611686018427387904) : ∀ (d n v : Nat), L.length = n + d → n ≤ 10 → v < 128 ^ n → Ev (fun k => num_short.l0 k L v n ((7 * n : Nat) : Int)) (sh (L.drop n) n v) := by
  intro d
  induction d with
  | zero =>
    intro n v hd hn hv
    rw [List.drop_of_length_le (by omega)]
    exact Ev.step (f := fun _ => some (0, 0, 2)) (fun k => by simp only [num_short.l0]; rw [if_pos (by omega)]) (Ev.now _)
  | succ d ih =>
    intro n v hd hn hv
    have hlt : n < L.length := by omega
    obtain ⟨c, hc, hc2⟩ : ∃ c : Nat, L[n] = (c : Int) ∧ c < 256 := ⟨L[n].toNat, by have := hw _ (List.getElem_mem hlt); omega, by have := hw _ (List.getElem_mem hlt); omega⟩
    have hrd : rd L (n : Int) = (c : Int) := by rw [rd_get hlt, hc]
    rw [dropc L n hlt, hc]
    simp only [sh, Int.toNat_natCast]
    by_cases hN : 9 < n
    · rw [if_pos (.inl hN)]
      refine Ev.step (f := fun k => num_short.j1 k L v (wrap64 (n + 1)) ((7 * n : Nat) : Int) (rd L n) (IntKind.u64.wrap (Go.bits .and .u8 (rd L n) 127)) (decide ((7 * n : Nat) ≥ (64 : Int)))) (fun k => by simp only [num_short.l0]; rw [if_neg (by omega), if_pos (by omega), if_pos (by omega), if_pos (by omega)]) ?_
      refine Ev.step (f := fun _ => some (0, 0, 4)) (fun k => by simp only [num_short.j1]; rw [if_pos (decide_eq_true (by omega))]) (Ev.now _)
    · refine Ev.step (short_at L hl · n v c hlt hc hc2 (by omega)) ?_
      by_cases h9 : n = 9 ∧ 1 < c % 128
      · rw [if_pos (.inr (.inl h9)), decide_eq_true h9]
        exact Ev.step (f := fun _ => some (0, 0, 4)) (fun k => by simp only [num_short.j1]; rw [if_pos trivial]) (Ev.now _)
      · rw [decide_eq_false h9]
        refine Ev.step (f := fun k => num_short.j2 k L v ((n + 1 : Nat) : Int) ((7 * n : Nat) : Int) c ((c % 128 : Nat) : Int) (decide (0 < n ∧ c = 0))) (fun k => by
          simp only [num_short.j1]
          rw [if_neg (by decide)]
          by_cases h0 : c = 0
          · rw [if_pos (by omega)]; congr 1; exact decide_eq_decide.mpr (by omega)
          · rw [if_neg (by omega), decide_eq_false (by omega)]) ?_
        by_cases h0 : 0 < n ∧ c = 0
        · rw [if_pos (.inr (.inr ⟨h0.1, by omega⟩)), decide_eq_true h0]
          exact Ev.step (f := fun _ => some (0, 0, 4)) (fun k => by simp only [num_short.j2]; rw [if_pos trivial]) (Ev.now _)
        · rw [if_neg (by rintro (h | h | h); exact hN h; exact h9 h; exact h0 ⟨h.1, by omega⟩), decide_eq_false h0]
          have hor := sh_or (c := c) (n := n) (v := v) (by omega) h9 hv
          have hbd := sh_bound (c := c) (n := n) (v := v) (by omega) h9 hv
          have hu : IntKind.u64.wrap ((7 * n : Nat) : Int) = ((7 * n : Nat) : Int) := u64w_id (by omega) (by omega)
          generalize v + c % 128 * 128 ^ n = v2 at hor hbd ⊢
          by_cases h8 : c < 128
          · rw [if_pos (by omega)]
            exact Ev.step (f := fun _ => some ((v2 : Int), ((n + 1 : Nat) : Int), 0)) (fun k => by simp only [num_short.j2]; rw [if_neg (by decide), if_pos (by rw [hu]; exact Int.natCast_nonneg _), if_pos ((and128 c hc2).2 h8), hor]) (Ev.now _)
          · rw [if_neg (by omega)]
            refine Ev.step (f := fun k => num_short.l0 k L v2 ((n + 1 : Nat) : Int) ((7 * (n + 1) : Nat) : Int)) (fun k => by
              simp only [num_short.j2]
              rw [if_neg (by decide), if_pos (by rw [hu]; exact Int.natCast_nonneg _), if_neg (fun h => h8 ((and128 c hc2).1 h)), hor, w64 (by omega) (by omega)]
              rw [show ((7 * n : Nat) : Int) + 7 = ((7 * (n + 1) : Nat) : Int) by omega]) ?_
            exact ih (n + 1) v2 (by omega) (by omega) hbd.2
theorem short_f (L : List Int) (hw : ∀ x ∈ L, 0 ≤ x ∧ x < 256) (hl : L.length < 4611686018427387904) : Ev (fun k => num_short.f k L) (sh L 0 0) := by
  have := short_l0 L hw hl L.length 0 0 (by omega) (by omega) (by decide)
  rw [List.drop_zero] at this
  exact Ev.congr (fun k => by unfold num_short.f; rfl) this

/-! what Var comes to -/
theorem sh_cases : ∀ (l : List Int) (n v : Nat), (∀ x ∈ l, 0 ≤ x ∧ x < 256) → n ≤ 10 → v < 128 ^ n →
    sh l n v = (0, 0, 2) ∨ sh l n v = (0, 0, 4) ∨ ∃ v' m : Nat, sh l n v = ((v' : Int), (m : Int), 0) ∧ n < m ∧ m ≤ n + l.length ∧ v' < 18446744073709551616 := by
  intro l
  induction l with
  | nil => intro n v _ _ _; exact .inl rfl
  | cons b l ih =>
    intro n v hw hn hv
    obtain ⟨c, rfl, hc2⟩ : ∃ c : Nat, b = (c : Int) ∧ c < 256 := ⟨b.toNat, by have := hw b (by simp); omega, by have := hw b (by simp); omega⟩
    simp only [sh, Int.toNat_natCast]
    by_cases hE : 9 < n ∨ (n = 9 ∧ 1 < c % 128) ∨ (0 < n ∧ (c : Int) = 0)
    · rw [if_pos hE]; exact .inr (.inl rfl)
    · rw [if_neg hE]
      have hbd := sh_bound (c := c) (n := n) (v := v) (by omega) (by omega) hv
      generalize v + c % 128 * 128 ^ n = v2 at hbd ⊢
      by_cases h8 : (c : Int) < 128
      · rw [if_pos h8]
        exact .inr (.inr ⟨v2, n + 1, rfl, by omega, by simp only [List.length_cons]; omega, hbd.1⟩)
      · rw [if_neg h8]
        rcases ih (n + 1) v2 (fun x hx => hw x (by simp [hx])) (by omega) hbd.2 with h | h | ⟨v', m, h1, h2, h3, h4⟩
        · exact .inl h
        · exact .inr (.inl h)
        · exact .inr (.inr ⟨v', m, h1, by omega, by simp only [List.length_cons]; omega, h4⟩)
theorem drop_bytes {L : List Int} (hw : ∀ x ∈ L, 0 ≤ x ∧ x < 256) (a : Nat) : ∀ x ∈ L.drop a, 0 ≤ x ∧ x < 256 := fun x hx => hw x (List.mem_of_mem_drop hx)

theorem nvar_ok {b : List Int} (hw : ∀ x ∈ b, 0 ≤ x ∧ x < 256) (hl : b.length < 4611686018427387904) {a v m : Nat} {on : Int} (ha : a ≤ b.length) (h : sh (b.drop a) 0 0 = ((v : Int), (m : Int), 0)) (hm : a + m ≤ b.length) :
    Ev (fun k => num_Reader_Var.f k b a 0 on) ((v : Int), ((a + m : Nat) : Int), 0, on) := by
  have hs := short_f (b.drop a) (drop_bytes hw a) (by rw [List.length_drop]; omega)
  rw [h] at hs
  refine Ev.congr (f := fun k => _) (fun k => by unfold num_Reader_Var.f; rw [if_neg (by simp), if_pos ⟨Int.natCast_nonneg _, by omega⟩, Int.toNat_natCast]) (Ev.bind hs ?_)
  refine ⟨0, fun k _ => ?_⟩
  simp only [num_Reader_Fail.f, num_Reader_Fail.next, Option.bind_some]
  rw [w64 (by omega) (by omega)]
  simp
theorem nvar_err {b : List Int} (hw : ∀ x ∈ b, 0 ≤ x ∧ x < 256) (hl : b.length < 4611686018427387904) {a : Nat} {on x : Int} (ha : a ≤ b.length) (hx : x = 2 ∨ x = 4) (h : sh (b.drop a) 0 0 = (0, 0, x)) :
    Ev (fun k => num_Reader_Var.f k b a 0 on) (0, (a : Int), x, (a : Int)) := by
  have hs := short_f (b.drop a) (drop_bytes hw a) (by rw [List.length_drop]; omega)
  rw [h] at hs
  refine Ev.congr (f := fun k => _) (fun k => by unfold num_Reader_Var.f; rw [if_neg (by simp), if_pos ⟨Int.natCast_nonneg _, by omega⟩, Int.toNat_natCast]) (Ev.bind hs ?_)
  refine ⟨0, fun k _ => ?_⟩
  rcases hx with rfl | rfl
  all_goals
    simp [num_Reader_Fail.f, num_Reader_Fail.next]
    rw [w64 (by omega) (by omega)]

theorem leb_bytes : ∀ (w : Nat), ∀ x ∈ leb w, 0 ≤ x ∧ x < 256 := by
  intro w
  induction w using Nat.strongRecOn with
  | _ w ih =>
  intro x hx
  by_cases hv : w < 128
  · rw [leb_small hv] at hx; simp at hx; omega
  · rw [leb_big hv] at hx
    rcases List.mem_cons.1 hx with rfl | hx
    · omega
    · exact ih (w / 128) (by omega) x hx

/-! a short number that is put is read as it was; what is read is put as it was -/
theorem pow_split (w n : Nat) : w % 128 * 128 ^ n + w / 128 * 128 ^ (n + 1) = w * 128 ^ n := by
  have e : w / 128 * 128 ^ (n + 1) = 128 * (w / 128) * 128 ^ n := by rw [Nat.pow_succ]; ac_rfl
  rw [e, ← Nat.add_mul, Nat.mod_add_div]
theorem h9_of {w n : Nat} (hb : w * 128 ^ n < 18446744073709551616) : n = 9 → w ≤ 1 := by
  rintro rfl
  simp only [Nat.reducePow] at hb
  omega
theorem sh_leb (rest : List Int) : ∀ (w n v0 : Nat), n ≤ 9 → (0 < n → 0 < w) → w * 128 ^ n < 18446744073709551616 →
    sh (leb w ++ rest) n v0 = (((v0 + w * 128 ^ n : Nat) : Int), ((n + (leb w).length : Nat) : Int), 0) := by
  intro w
  induction w using Nat.strongRecOn with
  | _ w ih =>
  intro n v0 hn h0 hb
  have h9 := h9_of hb
  have e2 := pow_split w n
  have hb' : w / 128 * 128 ^ (n + 1) < 18446744073709551616 := Nat.lt_of_le_of_lt (by rw [← e2]; exact Nat.le_add_left _ _) hb
  clear hb
  by_cases hv : w < 128
  · clear ih hb' e2
    have hE : ¬ (9 < n ∨ (n = 9 ∧ 1 < w % 128) ∨ (0 < n ∧ (w : Int) = 0)) := by
      rintro (h | h | h)
      · omega
      · have := h9 h.1; omega
      · have := h0 h.1; omega
    rw [leb_small hv, List.singleton_append]
    simp only [sh, Int.toNat_natCast]
    rw [if_neg hE, if_pos (by omega), Nat.mod_eq_of_lt hv]
    rfl
  · have hn9 : n ≠ 9 := fun h => by have := h9 h; omega
    have hih := ih (w / 128) (by omega) (n + 1) (v0 + w % 128 * 128 ^ n) (by omega) (fun _ => by omega) hb'
    rw [Nat.add_assoc, e2] at hih
    clear ih hb' e2
    have hE : ¬ (9 < n ∨ (n = 9 ∧ 1 < (w % 128 + 128) % 128) ∨ (0 < n ∧ ((w % 128 + 128 : Nat) : Int) = 0)) := by omega
    have e : (w % 128 + 128) % 128 = w % 128 := by omega
    rw [leb_big hv, List.cons_append]
    simp only [sh, Int.toNat_natCast]
    rw [if_neg hE, if_neg (by omega), e, hih, List.length_cons, show n + 1 + (leb (w / 128)).length = n + ((leb (w / 128)).length + 1) by omega]
theorem sh_trunc : ∀ (w n v0 j : Nat), n ≤ 9 → (0 < n → 0 < w) → w * 128 ^ n < 18446744073709551616 → j < (leb w).length → sh ((leb w).take j) n v0 = (0, 0, 2) := by
  intro w
  induction w using Nat.strongRecOn with
  | _ w ih =>
  intro n v0 j hn h0 hb hj
  cases j with
  | zero => rfl
  | succ j =>
    have h9 := h9_of hb
    have e2 := pow_split w n
    have hb' : w / 128 * 128 ^ (n + 1) < 18446744073709551616 := Nat.lt_of_le_of_lt (by rw [← e2]; exact Nat.le_add_left _ _) hb
    clear hb e2
    by_cases hv : w < 128
    · rw [leb_small hv] at hj; simp at hj
    · have hn9 : n ≠ 9 := fun h => by have := h9 h; omega
      rw [leb_big hv, List.length_cons] at hj
      have hih := ih (w / 128) (by omega) (n + 1) (v0 + w % 128 * 128 ^ n) j (by omega) (fun _ => by omega) hb' (by omega)
      clear ih hb'
      have hE : ¬ (9 < n ∨ (n = 9 ∧ 1 < (w % 128 + 128) % 128) ∨ (0 < n ∧ ((w % 128 + 128 : Nat) : Int) = 0)) := by omega
      have e : (w % 128 + 128) % 128 = w % 128 := by omega
      rw [leb_big hv, List.take_succ_cons]
      simp only [sh, Int.toNat_natCast]
      rw [if_neg hE, if_neg (by omega), e, hih]
theorem leb_sh : ∀ (l : List Int) (n v0 v' m : Nat), (∀ x ∈ l, 0 ≤ x ∧ x < 256) → sh l n v0 = ((v' : Int), (m : Int), 0) →
    ∃ w, l = leb w ++ l.drop (m - n) ∧ v' = v0 + w * 128 ^ n ∧ n < m ∧ (0 < n → 0 < w) := by
  intro l
  induction l with
  | nil => intro n v0 v' m _ h; simp [sh] at h
  | cons b l ih =>
    intro n v0 v' m hw h
    obtain ⟨c, rfl, hc2⟩ : ∃ c : Nat, b = (c : Int) ∧ c < 256 := ⟨b.toNat, by have := hw b (by simp); omega, by have := hw b (by simp); omega⟩
    simp only [sh, Int.toNat_natCast] at h
    by_cases hE : 9 < n ∨ (n = 9 ∧ 1 < c % 128) ∨ (0 < n ∧ (c : Int) = 0)
    · rw [if_pos hE] at h; simp at h
    · rw [if_neg hE] at h
      by_cases h8 : (c : Int) < 128
      · rw [if_pos h8] at h
        simp only [Prod.mk.injEq, Int.natCast_inj, and_true] at h
        obtain ⟨h1, h2⟩ := h
        refine ⟨c, ?_, ?_, by omega, fun h => by omega⟩
        · rw [leb_small (by omega), show m - n = 1 by omega]; rfl
        · rw [← h1, Nat.mod_eq_of_lt (by omega)]
      · rw [if_neg h8] at h
        obtain ⟨w, h1, h2, h3, h4⟩ := ih (n + 1) _ v' m (fun x hx => hw x (by simp [hx])) h
        have hw0 := h4 (by omega)
        refine ⟨c % 128 + 128 * w, ?_, ?_, by omega, fun _ => by omega⟩
        · rw [leb_big (by omega), show (c % 128 + 128 * w) % 128 + 128 = c by omega, show (c % 128 + 128 * w) / 128 = w by omega, show m - n = (m - (n + 1)) + 1 by omega, List.drop_succ_cons, List.cons_append, ← h1]
        · rw [h2, Nat.add_mul, Nat.pow_succ, Nat.add_assoc]; congr 2; ac_rfl

theorem numawake : Ev (fun k => estreatlaw01_awake.f k) true := by
  unfold estreatlaw01_awake.f
  have hp : Ev (fun k => num_PutVar.f k [] 300) [172, 2] := ⟨10, fun k hk => by
    show num_PutVar.f k [] 300 = _
    rw [putvar_f (by decide) (by decide) hk (by decide)]
    rw [show Int.toNat 300 = 300 from rfl, leb_big (by decide), leb_small (by decide)]; decide⟩
  refine Ev.bind hp ?_
  refine Ev.bind (a := true) ⟨10, fun k hk => by
    have := same_f [172, 2] [172, 2] (by decide) k (by simp; omega)
    simpa using this⟩ ?_
  simp only [if_true]
  rw [zig_f (by decide) (by decide)]
  exact Ev.now _

theorem putvar_ev (v : Nat) (hv : v < 18446744073709551616) (b : List Int) (hb : b.length < 140737488000000) : Ev (fun k => num_PutVar.f k b v) (b ++ leb v) := ⟨10, fun k hk => by
  have := putvar_f (v := (v : Int)) (b := b) (k := k) (by omega) (by omega) hk hb
  rw [Int.toNat_natCast] at this; exact this⟩
theorem leb_pos (v : Nat) : 0 < (leb v).length := by
  by_cases h : v < 128
  · rw [leb_small h]; simp
  · rw [leb_big h]; simp
theorem pick_f (a m : Int) (h1 : 1 ≤ m) (h2 : m ≤ 1000) : ∃ r, estreatref01_Pick.f a m = some r ∧ 0 ≤ r ∧ r < m := by
  unfold estreatref01_Pick.f
  rw [if_neg (by omega), if_neg (by omega)]
  have e := Int.tmod_lt_of_pos a (show 0 < m by omega)
  by_cases h : Int.tmod a m < 0
  · have e2 : -m < Int.tmod a m := by
      have e3 := Int.tmod_lt_of_pos (-a) (show 0 < m by omega)
      rw [Int.neg_tmod] at e3
      omega
    rw [if_pos h]
    refine ⟨_, rfl, ?_⟩
    rw [w64 (by omega) (by omega)]
    omega
  · rw [if_neg h]
    exact ⟨_, rfl, by omega, by omega⟩
/-- A short number that is cut off: it is short, at the place where it begins. -/
theorem cut_var (v j : Nat) (hv : v < 18446744073709551616) (hj : j < (leb v).length) : Ev (fun k => num_Reader_Var.f k (7 :: (leb v).take j) 1 0 0) (0, 1, 2, 1) := by
  have hs : sh ((7 :: (leb v).take j).drop 1) 0 0 = (0, 0, 2) := by
    rw [List.drop_succ_cons, List.drop_zero]
    exact sh_trunc v 0 0 j (by omega) (by omega) (by omega) hj
  have hw : ∀ x ∈ (7 :: (leb v).take j : List Int), 0 ≤ x ∧ x < 256 := by
    intro x hx
    rcases List.mem_cons.1 hx with rfl | hx
    · decide
    · exact leb_bytes v x (List.mem_of_mem_take hx)
  have hl : (7 :: (leb v).take j : List Int).length < 4611686018427387904 := by
    have := leb_length10 hv
    simp only [List.length_cons, List.length_take]
    omega
  exact nvar_err (b := 7 :: (leb v).take j) (a := 1) (on := 0) (x := 2) hw hl (by simp) (.inl rfl) hs

end Go.Proofs.YtjmhfbgpebgcmaaDoor.Pure
