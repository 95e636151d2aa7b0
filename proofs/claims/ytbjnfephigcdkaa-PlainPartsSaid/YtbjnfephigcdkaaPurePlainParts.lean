/- What estreatlaw08.PlainParts computes is true for any two lists of numbers. -/
import Derived.Test.YtbjnfephigcdkaaPPlainPartsx2
import Derived.Lib.Zigzag
import Derived.Lib.BitFns
namespace Go.Proofs.Ytbjnfephigcdkaa.Pure
open Go.RowKit Go.Proofs.Ytbjnfephigcdkaa.PPlainParts Go.Proofs.YtbjnfephigcdkaaW.PrintWords Go.Proofs.YtbjnfephigcdkaaW.PrintLast Go.Proofs.YtbjnfephigcdkaaW.PrintMore

/-! words of this session: plain facts on numbers and lists -/
theorem w64 {n : Int} (h0 : -9223372036854775808 ≤ n) (h1 : n ≤ 9223372036854775807) : wrap64 n = n := by unfold wrap64; omega
theorem u64w (n : Int) : IntKind.u64.wrap n = n % 18446744073709551616 := by simp [IntKind.wrap, IntKind.bits, IntKind.signed]
theorem u64w_id {n : Int} (h0 : 0 ≤ n) (h1 : n < 18446744073709551616) : IntKind.u64.wrap n = n := by rw [u64w]; omega
theorem rd_nat (xs : List Int) (i : Nat) : rd xs (i : Int) = xs.getD i 0 := by simp [rd]
theorem rd_get {xs : List Int} {i : Nat} (h : i < xs.length) : rd xs (i : Int) = xs[i] := by simp [rd, h]
theorem wf_i64 {x : Int} (h : (Lit.int .i64 x).wf = true) : -9223372036854775808 ≤ x ∧ x ≤ 9223372036854775807 := by
  simp [Lit.wf, IntKind.min, IntKind.max, IntKind.signed, IntKind.bits] at h; omega
theorem wf_u64 {x : Int} (h : (Lit.int .u64 x).wf = true) : 0 ≤ x ∧ x < 18446744073709551616 := by
  simp [Lit.wf, IntKind.min, IntKind.max, IntKind.signed, IntKind.bits] at h; omega
theorem wf_u8 {x : Int} (h : (Lit.int .u8 x).wf = true) : 0 ≤ x ∧ x < 256 := by
  simp [Lit.wf, IntKind.min, IntKind.max, IntKind.signed, IntKind.bits] at h; omega
theorem dropc {α : Type} (l : List α) (i : Nat) (h : i < l.length) : l.drop i = l[i] :: l.drop (i + 1) := List.drop_eq_getElem_cons h

/-! estreatref01.Same: are two lists one? -/
theorem same_l0 (xs ys : List Int) (hl : xs.length = ys.length) (hb : xs.length < 9223372036854775807) : ∀ (d k i : Nat), xs.length = i + d → d < k → estreatref01_Same.l0 k xs ys i = some (decide (xs.drop i = ys.drop i)) := by
  intro d
  induction d with
  | zero =>
    intro k i hd hk
    obtain ⟨k, rfl⟩ : ∃ m, k = m + 1 := ⟨k - 1, by omega⟩
    simp only [estreatref01_Same.l0]; rw [if_neg (by omega), List.drop_of_length_le (by omega), List.drop_of_length_le (by omega)]; simp
  | succ d ih =>
    intro k i hd hk
    obtain ⟨k, rfl⟩ : ∃ m, k = m + 1 := ⟨k - 1, by omega⟩
    simp only [estreatref01_Same.l0]
    have := ih k (i + 1) (by omega) (by omega)
    simp only [Int.natCast_add, Int.natCast_one] at this
    rw [if_pos (by omega), if_pos (by omega), if_pos (by omega), rd_get (by omega), rd_get (by omega), w64 (by omega) (by omega), this]
    have ex : xs.drop i = xs[i] :: xs.drop (i + 1) := List.drop_eq_getElem_cons (by omega)
    have ey : ys.drop i = ys[i] :: ys.drop (i + 1) := List.drop_eq_getElem_cons (by omega)
    rw [ex, ey]
    by_cases h : xs[i] = ys[i]
    · rw [if_pos h, h]; simp only [List.cons.injEq, true_and]
    · rw [if_neg h, decide_eq_false]; simp only [List.cons.injEq, h, false_and, not_false_eq_true]
theorem same_f (xs ys : List Int) (hb : xs.length < 9223372036854775807) : ∀ k, xs.length < k → estreatref01_Same.f k xs ys = some (decide (xs = ys)) := by
  intro k hk
  unfold estreatref01_Same.f
  by_cases h : xs.length = ys.length
  · rw [if_pos (by omega)]
    have := same_l0 xs ys h hb xs.length k 0 (by omega) hk
    simpa using this
  · rw [if_neg (by omega)]
    have : xs ≠ ys := fun e => h (by rw [e])
    simp [this]

/-! the short number of a number, and what puts it -/
def leb (v : Nat) : List Int := if h : v < 128 then [(v : Int)] else ((v % 128 + 128 : Nat) : Int) :: leb (v / 128)
theorem leb_small {v : Nat} (h : v < 128) : leb v = [(v : Int)] := by rw [leb, dif_pos h]
theorem leb_big {v : Nat} (h : ¬ v < 128) : leb v = ((v % 128 + 128 : Nat) : Int) :: leb (v / 128) := by rw [leb, dif_neg h]
theorem leb_length : ∀ (n v : Nat), v < 128 ^ (n + 1) → (leb v).length ≤ n + 1 := by
  intro n
  induction n with
  | zero => intro v h; rw [leb_small (by simpa using h)]; simp
  | succ n ih =>
    intro v h
    by_cases hv : v < 128
    · rw [leb_small hv]; simp
    · rw [leb_big hv, List.length_cons]
      have := ih (v / 128) (by rw [Nat.div_lt_iff_lt_mul (by decide)]; rw [Nat.pow_succ] at h; omega)
      omega
theorem p128 : (18446744073709551616 : Nat) < 128 ^ (9 + 1) := by decide
theorem leb_length10 {v : Nat} (h : v < 18446744073709551616) : (leb v).length ≤ 10 := leb_length 9 v (Nat.lt_trans h p128)

theorem putvar_l0 : ∀ (n k v : Nat) (b : List Int), v < 128 ^ (n + 1) → n < k → b.length + n < 140737488355328 → num_PutVar.l0 k b v = some (b ++ leb v) := by
  intro n
  induction n with
  | zero =>
    intro k v b hv hk hb
    obtain ⟨k, rfl⟩ : ∃ m, k = m + 1 := ⟨k - 1, by omega⟩
    simp only [num_PutVar.l0]
    rw [if_neg (by omega), if_pos (by omega), leb_small (by omega)]
    rw [Int.emod_eq_of_lt (by omega) (by omega)]
  | succ n ih =>
    intro k v b hv hk hb
    obtain ⟨k, rfl⟩ : ∃ m, k = m + 1 := ⟨k - 1, by omega⟩
    simp only [num_PutVar.l0]
    by_cases h : v < 128
    · rw [if_neg (by omega), if_pos (by omega), leb_small h, Int.emod_eq_of_lt (by omega) (by omega)]
    · rw [if_pos (by omega), if_pos (by omega), Lib.u8_or128_any _ (by omega) (by omega), leb_big h]
      have e : (v : Int) / 128 = ((v / 128 : Nat) : Int) := by omega
      rw [e, ih k (v / 128) _ (by rw [Nat.div_lt_iff_lt_mul (by decide)]; rw [Nat.pow_succ] at hv; omega) (by omega) (by simp; omega)]
      have e2 : (v : Int) % 256 % 128 + 128 = ((v % 128 + 128 : Nat) : Int) := by omega
      rw [e2]; simp
theorem putvar_f {v : Int} {b : List Int} {k : Nat} (h0 : 0 ≤ v) (h1 : v < 18446744073709551616) (hk : 10 ≤ k) (hb : b.length < 140737488000000) : num_PutVar.f k b v = some (b ++ leb v.toNat) := by
  obtain ⟨n, rfl⟩ := Int.eq_ofNat_of_zero_le h0
  unfold num_PutVar.f
  exact putvar_l0 9 k n b (Nat.lt_trans (by omega) p128) (by omega) (by omega)

/-! num.Zig -/
def zz (x : Int) : Int := if 0 ≤ x then 2 * x else -2 * x - 1
theorem zz_range {x : Int} (h0 : -9223372036854775808 ≤ x) (h1 : x ≤ 9223372036854775807) : 0 ≤ zz x ∧ zz x < 18446744073709551616 := by
  unfold zz; split <;> omega
theorem zig_f {x : Int} (h0 : -9223372036854775808 ≤ x) (h1 : x ≤ 9223372036854775807) : num_Zig.f x = some (zz x) := by
  unfold num_Zig.f zz
  by_cases h : 0 ≤ x
  · rw [if_pos h]
    have e1 : IntKind.u64.wrap (IntKind.u64.wrap x * 2) = (((2 * x).toNat : Nat) : Int) := by rw [u64w, u64w]; omega
    have e2 : IntKind.u64.wrap (x / 9223372036854775808) = ((0 : Nat) : Int) := by rw [u64w]; omega
    rw [e1, e2, bits_xor_u64_nat _ _ (by omega) (by omega), Nat.xor_zero]
    congr 1; omega
  · rw [if_neg h]
    have e1 : IntKind.u64.wrap (IntKind.u64.wrap x * 2) = (((2 * x + 18446744073709551616).toNat : Nat) : Int) := by rw [u64w, u64w]; omega
    have e2 : IntKind.u64.wrap (x / 9223372036854775808) = ((2 ^ 64 - 1 : Nat) : Int) := by rw [u64w]; omega
    rw [e1, e2, bits_xor_u64_nat _ _ (by omega) (by decide), Nat.xor_comm, Lib.xor_ones64 _ (by omega)]
    congr 1; omega

/-! math/bits.Len64 -/
abbrev T8 : ByteArray := ⟨#[0, 1, 2, 2, 3, 3, 3, 3, 4, 4, 4, 4, 4, 4, 4, 4, 5, 5, 5, 5, 5, 5, 5, 5, 5, 5, 5, 5, 5, 5, 5, 5, 6, 6, 6, 6, 6, 6, 6, 6, 6, 6, 6, 6, 6, 6, 6, 6, 6, 6, 6, 6, 6, 6, 6, 6, 6, 6, 6, 6, 6, 6, 6, 6, 7, 7, 7, 7, 7, 7, 7, 7, 7, 7, 7, 7, 7, 7, 7, 7, 7, 7, 7, 7, 7, 7, 7, 7, 7, 7, 7, 7, 7, 7, 7, 7, 7, 7, 7, 7, 7, 7, 7, 7, 7, 7, 7, 7, 7, 7, 7, 7, 7, 7, 7, 7, 7, 7, 7, 7, 7, 7, 7, 7, 7, 7, 7, 7, 8, 8, 8, 8, 8, 8, 8, 8, 8, 8, 8, 8, 8, 8, 8, 8, 8, 8, 8, 8, 8, 8, 8, 8, 8, 8, 8, 8, 8, 8, 8, 8, 8, 8, 8, 8, 8, 8, 8, 8, 8, 8, 8, 8, 8, 8, 8, 8, 8, 8, 8, 8, 8, 8, 8, 8, 8, 8, 8, 8, 8, 8, 8, 8, 8, 8, 8, 8, 8, 8, 8, 8, 8, 8, 8, 8, 8, 8, 8, 8, 8, 8, 8, 8, 8, 8, 8, 8, 8, 8, 8, 8, 8, 8, 8, 8, 8, 8, 8, 8, 8, 8, 8, 8, 8, 8, 8, 8, 8, 8, 8, 8, 8, 8, 8, 8, 8, 8, 8, 8, 8, 8, 8, 8, 8, 8, 8, 8]⟩
theorem tab8 : ∀ n : Fin 256, bt T8 (n.val : Int) = (Lib.bitLen n.val : Int) := by decide +kernel
theorem tab8_at {i : Int} (h0 : 0 ≤ i) (h1 : i < 256) : bt T8 i = (Lib.bitLen i.toNat : Int) := by
  have := tab8 ⟨i.toNat, by omega⟩
  simpa [Int.toNat_of_nonneg h0] using this
theorem bitlen_le {v : Nat} (h : v < 18446744073709551616) : Lib.bitLen v ≤ 64 := Lib.bitLen_le v 64 (by decide) (by simpa using h)
theorem len8_some {x y : Int} (h0 : 0 ≤ x) (h1 : x < 256) (hy0 : 0 ≤ y) (hy1 : y < 1000) : (if 0 ≤ x % 256 then (if x % 256 < 256 then some (wrap64 (y + wrap64 (bt T8 (x % 256)))) else none) else none) = some (y + (Lib.bitLen x.toNat : Int)) := by
  have e : x % 256 = x := by omega
  have hb := bitlen_le (v := x.toNat) (by omega)
  rw [e, if_pos h0, if_pos h1, tab8_at h0 h1, w64 (n := (Lib.bitLen x.toNat : Int)) (by omega) (by omega), w64 (by omega) (by omega)]
theorem len32_j (k : Nat) {x y : Int} (h0 : 0 ≤ x) (h1 : x < 4294967296) (hy0 : 0 ≤ y) (hy1 : y < 100) : bits_Len64.j0 (k + 1) x y = some (y + (Lib.bitLen x.toNat : Int)) := by
  rw [bits_Len64.j0.eq_2]
  by_cases c1 : x ≥ 65536
  · rw [if_pos c1]
    have hs := Lib.bitLen_shift16 x.toNat (by omega) (by omega)
    have e1 : (x / 65536).toNat = x.toNat / 65536 := by omega
    by_cases c2 : x / 65536 ≥ 256
    · rw [if_pos c2]
      have hs2 := Lib.bitLen_shift8 (x.toNat / 65536) (by omega) (by omega)
      have e2 : (x / 65536 / 256).toNat = x.toNat / 65536 / 256 := by omega
      refine (len8_some (x := x / 65536 / 256) (y := wrap64 (wrap64 (y + 16) + 8)) (by omega) (by omega) ?_ ?_).trans ?_
      · rw [w64 (n := y + 16) (by omega) (by omega), w64 (by omega) (by omega)]; omega
      · rw [w64 (n := y + 16) (by omega) (by omega), w64 (by omega) (by omega)]; omega
      · rw [w64 (n := y + 16) (by omega) (by omega), w64 (by omega) (by omega), e2, hs, hs2]; congr 1; omega
    · rw [if_neg c2]
      refine (len8_some (x := x / 65536) (y := wrap64 (y + 16)) (by omega) (by omega) ?_ ?_).trans ?_
      · rw [w64 (by omega) (by omega)]; omega
      · rw [w64 (by omega) (by omega)]; omega
      · rw [w64 (by omega) (by omega), e1, hs]; congr 1; omega
  · rw [if_neg c1]
    by_cases c2 : x ≥ 256
    · rw [if_pos c2]
      have hs2 := Lib.bitLen_shift8 x.toNat (by omega) (by omega)
      have e2 : (x / 256).toNat = x.toNat / 256 := by omega
      refine (len8_some (x := x / 256) (y := wrap64 (y + 8)) (by omega) (by omega) ?_ ?_).trans ?_
      · rw [w64 (by omega) (by omega)]; omega
      · rw [w64 (by omega) (by omega)]; omega
      · rw [w64 (by omega) (by omega), e2, hs2]; congr 1; omega
    · rw [if_neg c2]
      exact len8_some h0 (by omega) hy0 (by omega)
theorem len64_f {x : Int} {k : Nat} (h0 : 0 ≤ x) (h1 : x < 18446744073709551616) (hk : 1 ≤ k) : bits_Len64.f k x = some (Lib.bitLen x.toNat : Int) := by
  obtain ⟨k, rfl⟩ : ∃ m, k = m + 1 := ⟨k - 1, by omega⟩
  unfold bits_Len64.f
  by_cases c : x ≥ 4294967296
  · have hs := Lib.bitLen_shift32 x.toNat (by omega) (by omega)
    have e : (x / 4294967296).toNat = x.toNat / 4294967296 := by omega
    rw [if_pos c, len32_j k (by omega) (by omega) (by omega) (by omega), e, hs]; rfl
  · rw [if_neg c, len32_j k h0 (by omega) (by omega) (by omega), Int.zero_add]

theorem leb_len_bits : ∀ (n v : Nat), v < 128 ^ (n + 1) → v < 18446744073709551616 → ((leb v).length : Int) = mx 1 (Int.tdiv ((Lib.bitLen v : Int) + 6) 7) := by
  intro n
  induction n with
  | zero =>
    intro v hv h64
    have hb := Lib.bitLen_le v 7 (by decide) (by simpa using hv)
    rw [leb_small (by simpa using hv), Int.tdiv_eq_ediv_of_nonneg (by omega)]
    unfold mx; split <;> simp <;> omega
  | succ n ih =>
    intro v hv h64
    by_cases h : v < 128
    · have hb := Lib.bitLen_le v 7 (by decide) (by simpa using h)
      rw [leb_small h, Int.tdiv_eq_ediv_of_nonneg (by omega)]
      unfold mx; split <;> simp <;> omega
    · have hs := Lib.bitLen_shift 7 v (by simpa using h) (by simpa using h64)
      have hp : v / 128 < 128 ^ (n + 1) := by rw [Nat.div_lt_iff_lt_mul (by decide)]; rw [Nat.pow_succ] at hv; omega
      have hi := ih (v / 128) hp (by omega)
      have hs' : Lib.bitLen v = 7 + Lib.bitLen (v / 128) := by simpa using hs
      have hpos : 1 ≤ Lib.bitLen (v / 128) := by rw [Lib.bitLen_half _ (by omega) (by omega)]; omega
      rw [leb_big h, List.length_cons]
      rw [Int.tdiv_eq_ediv_of_nonneg (by omega)] at hi ⊢
      rw [hs']
      simp only [Int.natCast_add, Int.natCast_one]
      rw [hi]
      unfold mx; split <;> split <;> omega
theorem leb_len {v : Int} (h0 : 0 ≤ v) (h1 : v < 18446744073709551616) : ((leb v.toNat).length : Int) = mx 1 (Int.tdiv ((Lib.bitLen v.toNat : Int) + 6) 7) :=
  leb_len_bits 9 _ (Nat.lt_trans (by omega) p128) (by omega)

/-! plain.Put: the forms, one behind the other -/
def plainOf (l : List Int) : List Int := l.flatMap fun n => leb (zz n).toNat
theorem plainOf_cons (x : Int) (l : List Int) : plainOf (x :: l) = leb (zz x).toNat ++ plainOf l := by simp [plainOf]
theorem plainOf_append (l m : List Int) : plainOf (l ++ m) = plainOf l ++ plainOf m := by simp [plainOf]
theorem plainOf_length (l : List Int) (hw : ∀ x ∈ l, -9223372036854775808 ≤ x ∧ x ≤ 9223372036854775807) : (plainOf l).length ≤ 10 * l.length := by
  induction l with
  | nil => simp [plainOf]
  | cons x l ih =>
    have hx := hw x (by simp)
    have hz := zz_range hx.1 hx.2
    have := ih (fun y hy => hw y (by simp [hy]))
    have h10 := leb_length10 (v := (zz x).toNat) (by omega)
    rw [plainOf_cons, List.length_append, List.length_cons]; omega
theorem plainput_l0 (l : List Int) (hn : l.length ≤ 65536) (hw : ∀ x ∈ l, -9223372036854775808 ≤ x ∧ x ≤ 9223372036854775807) :
    ∀ (d k i : Nat) (b : List Int), l.length = i + d → d + 10 < k → b.length ≤ 10 * i → plain_Put.l0 k b l l.length i = some (b ++ plainOf (l.drop i), 0) := by
  intro d
  induction d with
  | zero =>
    intro k i b hd hk hb
    obtain ⟨k, rfl⟩ : ∃ m, k = m + 1 := ⟨k - 1, by omega⟩
    simp only [plain_Put.l0]
    rw [if_neg (by omega), List.drop_of_length_le (by omega)]; simp [plainOf]
  | succ d ih =>
    intro k i b hd hk hb
    obtain ⟨k, rfl⟩ : ∃ m, k = m + 1 := ⟨k - 1, by omega⟩
    simp only [plain_Put.l0]
    have hx := hw l[i] (List.getElem_mem (by omega))
    have hz := zz_range hx.1 hx.2
    have h10 := leb_length10 (v := (zz l[i]).toNat) (by omega)
    rw [if_pos (by omega), if_pos (by omega), if_pos (by omega), rd_get (by omega), zig_f hx.1 hx.2]
    simp only [Option.bind_some]
    rw [putvar_f hz.1 hz.2 (by omega) (by omega)]
    simp only [Option.bind_some]
    rw [w64 (by omega) (by omega)]
    have := ih k (i + 1) (b ++ leb (zz l[i]).toNat) (by omega) (by omega) (by simp; omega)
    simp only [Int.natCast_add, Int.natCast_one] at this
    rw [this, dropc l i (by omega), plainOf_cons, List.append_assoc]
theorem plainput_f (l : List Int) (hn : l.length ≤ 65536) (hw : ∀ x ∈ l, -9223372036854775808 ≤ x ∧ x ≤ 9223372036854775807) {k : Nat} (hk : l.length + 10 < k) : plain_Put.f k l = some (plainOf l, 0) := by
  unfold plain_Put.f
  rw [if_neg (by omega)]
  simpa using plainput_l0 l hn hw l.length k 0 [] (by omega) hk (by simp)

theorem plainlen_l0 (l : List Int) (hn : l.length ≤ 65536) (hw : ∀ x ∈ l, -9223372036854775808 ≤ x ∧ x ≤ 9223372036854775807) :
    ∀ (d k i : Nat) (n : Int), l.length = i + d → d + 1 < k → 0 ≤ n → n ≤ 10 * i → plain_Len.l0 k n l l.length i = some (n + (plainOf (l.drop i)).length) := by
  intro d
  induction d with
  | zero =>
    intro k i n hd hk h0 hb
    obtain ⟨k, rfl⟩ : ∃ m, k = m + 1 := ⟨k - 1, by omega⟩
    simp only [plain_Len.l0]
    rw [if_neg (by omega), List.drop_of_length_le (by omega)]; simp [plainOf]
  | succ d ih =>
    intro k i n hd hk h0 hb
    obtain ⟨k, rfl⟩ : ∃ m, k = m + 1 := ⟨k - 1, by omega⟩
    simp only [plain_Len.l0]
    have hx := hw l[i] (List.getElem_mem (by omega))
    have hz := zz_range hx.1 hx.2
    have h10 := leb_length10 (v := (zz l[i]).toNat) (by omega)
    have hl := leb_len hz.1 hz.2
    have hbl := bitlen_le (v := (zz l[i]).toNat) (by omega)
    rw [if_pos (by omega), if_pos (by omega), if_pos (by omega), rd_get (by omega), zig_f hx.1 hx.2]
    simp only [Option.bind_some]
    rw [len64_f hz.1 hz.2 (by omega)]
    simp only [Option.bind_some]
    rw [w64 (n := (Lib.bitLen (zz l[i]).toNat : Int) + 6) (by omega) (by omega), w64 (n := Int.tdiv _ 7) (by rw [Int.tdiv_eq_ediv_of_nonneg (by omega)]; omega) (by rw [Int.tdiv_eq_ediv_of_nonneg (by omega)]; omega), ← hl, w64 (by omega) (by omega), w64 (by omega) (by omega)]
    have := ih k (i + 1) (n + (leb (zz l[i]).toNat).length) (by omega) (by omega) (by omega) (by omega)
    simp only [Int.natCast_add, Int.natCast_one] at this
    rw [this, dropc l i (by omega), plainOf_cons, List.length_append]; congr 1; omega
theorem plainlen_f (l : List Int) (hn : l.length ≤ 65536) (hw : ∀ x ∈ l, -9223372036854775808 ≤ x ∧ x ≤ 9223372036854775807) {k : Nat} (hk : l.length + 1 < k) : plain_Len.f k l = some ((plainOf l).length : Int) := by
  unfold plain_Len.f
  simpa using plainlen_l0 l hn hw l.length k 0 0 (by omega) hk (by omega) (by omega)

theorem plainawake {k : Nat} (hk : 30 < k) : estreatlaw08_awake.f k = some true := by
  unfold estreatlaw08_awake.f
  rw [plainput_f _ (by decide) (by decide) (by simp; omega)]
  simp only [Option.bind_some]
  have e : plainOf [-1, 300] = [1, 216, 4] := by
    simp only [plainOf, List.flatMap_cons, List.flatMap_nil]
    have : zz (-1) = 1 := by decide
    rw [this, show zz 300 = 600 by decide, show Int.toNat 1 = 1 from rfl, show Int.toNat 600 = 600 from rfl, leb_small (by decide), leb_big (by decide), leb_small (by decide)]; decide
  rw [e, same_f _ _ (by decide) k (by simp; omega)]
  simp

theorem plainOf_append' (l m : List Int) : plainOf l ++ plainOf m = plainOf (l ++ m) := (plainOf_append l m).symm
theorem PlainParts : estreatlaw08_PlainParts.Pure := by
  intro l m hm hs hw hm2 hs2 hw2
  have hw' : ∀ x ∈ l, -9223372036854775808 ≤ x ∧ x ≤ 9223372036854775807 := fun x hx => wf_i64 (hw x hx)
  have hw2' : ∀ x ∈ m, -9223372036854775808 ≤ x ∧ x ≤ 9223372036854775807 := fun x hx => wf_i64 (hw2 x hx)
  obtain ⟨k, hk⟩ : ∃ k : Nat, 10000 < k := ⟨10001, by decide⟩
  refine ⟨k + 1, ?_⟩
  have J1 : ∀ k, 30 < k → estreatlaw08_PlainParts.j0 (k + 1) l m true = some true := fun k hk => by
    rw [estreatlaw08_PlainParts.j0.eq_2, if_pos rfl, plainawake hk]; rfl
  unfold estreatlaw08_PlainParts.f
  by_cases c : (l.length : Int) > 300
  · rw [if_pos c]; exact J1 k (by omega)
  · rw [if_neg c]
    by_cases c2 : (m.length : Int) > 300
    · rw [decide_eq_true c2]; exact J1 k (by omega)
    · have hl := plainOf_length l hw'
      have hl2 := plainOf_length m hw2'
      have hwa : ∀ x ∈ l ++ m, -9223372036854775808 ≤ x ∧ x ≤ 9223372036854775807 := fun x hx => (List.mem_append.1 hx).elim (hw' x) (hw2' x)
      rw [decide_eq_false c2, estreatlaw08_PlainParts.j0.eq_2, if_neg (by decide), plainput_f l (by omega) hw' (by omega)]
      simp only [Option.bind_some, List.nil_append, List.length_nil]
      rw [plainput_f m (by omega) hw2' (by omega)]
      simp only [Option.bind_some]
      rw [if_pos (by omega), if_pos (by omega), plainput_f (l ++ m) (by simp; omega) hwa (by simp; omega)]
      simp only [Option.bind_some, if_true]
      rw [if_pos (by omega), plainOf_append', same_f _ _ (by rw [plainOf_append, List.length_append]; omega) _ (by rw [plainOf_append, List.length_append]; omega)]
      simp only [Option.bind_some, decide_true, if_true]
      rw [plainlen_f l (by omega) hw' (by omega), Option.bind_some, plainlen_f m (by omega) hw2' (by omega), Option.bind_some]
      rw [if_pos (by rw [plainOf_append, List.length_append, w64 (by omega) (by omega)]; omega), plainawake (by omega)]; rfl

end Go.Proofs.Ytbjnfephigcdkaa.Pure
