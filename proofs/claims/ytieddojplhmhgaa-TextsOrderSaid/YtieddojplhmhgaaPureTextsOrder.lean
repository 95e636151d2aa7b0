/- What estreatlaw13.TextsOrder computes is true for any texts. -/
import Derived.Test.YtieddojplhmhgaaPTextsOrderx4
import Derived.Lib.Zigzag
import Derived.Lib.BitFns
namespace Go.Proofs.Ytieddojplhmhgaa.Pure
open Go.RowKit Go.Proofs.Ytieddojplhmhgaa.PTextsOrder Go.Proofs.YtieddojplhmhgaaW.PrintWords Go.Proofs.YtieddojplhmhgaaW.PrintLast Go.Proofs.YtieddojplhmhgaaW.PrintMore

/-! words of this session: plain facts on numbers and lists -/
theorem w64 {n : Int} (h0 : -9223372036854775808 ≤ n) (h1 : n ≤ 9223372036854775807) : wrap64 n = n := by unfold wrap64; omega
theorem u64w (n : Int) : IntKind.u64.wrap n = n % 18446744073709551616 := by simp [IntKind.wrap, IntKind.bits, IntKind.signed]
theorem u64w_id {n : Int} (h0 : 0 ≤ n) (h1 : n < 18446744073709551616) : IntKind.u64.wrap n = n := by rw [u64w]; omega
theorem rd_nat (xs : List Int) (i : Nat) : rd xs (i : Int) = xs.getD i 0 := by simp [rd]
theorem rd_get {xs : List Int} {i : Nat} (h : i < xs.length) : rd xs (i : Int) = xs[i] := by simp [rd, h]
theorem wf_i64 {x : Int} (h : (Lit.int .i64 x).wf = true) : -9223372036854775808 ≤ x ∧ x ≤ 9223372036854775807 := by
  simp [Lit.wf, IntKind.min, IntKind.max, IntKind.signed, IntKind.bits] at h; omega
theorem wf_u64 {x : Int} (h : (Lit.int .u64 x).wf = true) : 0 ≤ x ∧ x < 18446744073709551616 := by
  simp [Lit.wf, IntKind.min, IntKind.max, IntKind.signed, IntKind.bits] at h; omega
theorem wf_u8 {x : Int} (h : (Lit.int .u8 x).wf = true) : 0 ≤ x ∧ x < 256 := by
  simp [Lit.wf, IntKind.min, IntKind.max, IntKind.signed, IntKind.bits] at h; omega
theorem dropc {α : Type} (l : List α) (i : Nat) (h : i < l.length) : l.drop i = l[i] :: l.drop (i + 1) := List.drop_eq_getElem_cons h

/-! estreatref01.Same: are two lists one? -/
theorem same_l0 (xs ys : List Int) (hl : xs.length = ys.length) (hb : xs.length < 9223372036854775807) : ∀ (d k i : Nat), xs.length = i + d → d < k → estreatref01_Same.l0 k xs ys i = some (decide (xs.drop i = ys.drop i)) := by
  intro d
  induction d with
  | zero =>
    intro k i hd hk
    obtain ⟨k, rfl⟩ : ∃ m, k = m + 1 := ⟨k - 1, by omega⟩
    simp only [estreatref01_Same.l0]; rw [if_neg (by omega), List.drop_of_length_le (by omega), List.drop_of_length_le (by omega)]; simp
  | succ d ih =>
    intro k i hd hk
    obtain ⟨k, rfl⟩ : ∃ m, k = m + 1 := ⟨k - 1, by omega⟩
    simp only [estreatref01_Same.l0]
    have := ih k (i + 1) (by omega) (by omega)
    simp only [Int.natCast_add, Int.natCast_one] at this
    rw [if_pos (by omega), if_pos (by omega), if_pos (by omega), rd_get (by omega), rd_get (by omega), w64 (by omega) (by omega), this]
    have ex : xs.drop i = xs[i] :: xs.drop (i + 1) := List.drop_eq_getElem_cons (by omega)
    have ey : ys.drop i = ys[i] :: ys.drop (i + 1) := List.drop_eq_getElem_cons (by omega)
    rw [ex, ey]
    by_cases h : xs[i] = ys[i]
    · rw [if_pos h, h]; simp only [List.cons.injEq, true_and]
    · rw [if_neg h, decide_eq_false]; simp only [List.cons.injEq, h, false_and, not_false_eq_true]
theorem same_f (xs ys : List Int) (hb : xs.length < 9223372036854775807) : ∀ k, xs.length < k → estreatref01_Same.f k xs ys = some (decide (xs = ys)) := by
  intro k hk
  unfold estreatref01_Same.f
  by_cases h : xs.length = ys.length
  · rw [if_pos (by omega)]
    have := same_l0 xs ys h hb xs.length k 0 (by omega) hk
    simpa using this
  · rw [if_neg (by omega)]
    have : xs ≠ ys := fun e => h (by rw [e])
    simp [this]

/-! the short number of a number, and what puts it -/
def leb (v : Nat) : List Int := if h : v < 128 then [(v : Int)] else ((v % 128 + 128 : Nat) : Int) :: leb (v / 128)
theorem leb_small {v : Nat} (h : v < 128) : leb v = [(v : Int)] := by rw [leb, dif_pos h]
theorem leb_big {v : Nat} (h : ¬ v < 128) : leb v = ((v % 128 + 128 : Nat) : Int) :: leb (v / 128) := by rw [leb, dif_neg h]
theorem leb_length : ∀ (n v : Nat), v < 128 ^ (n + 1) → (leb v).length ≤ n + 1 := by
  intro n
  induction n with
  | zero => intro v h; rw [leb_small (by simpa using h)]; simp
  | succ n ih =>
    intro v h
    by_cases hv : v < 128
    · rw [leb_small hv]; simp
    · rw [leb_big hv, List.length_cons]
      have := ih (v / 128) (by rw [Nat.div_lt_iff_lt_mul (by decide)]; rw [Nat.pow_succ] at h; omega)
      omega
theorem p128 : (18446744073709551616 : Nat) < 128 ^ (9 + 1) := by decide
theorem leb_length10 {v : Nat} (h : v < 18446744073709551616) : (leb v).length ≤ 10 := leb_length 9 v (Nat.lt_trans h p128)

theorem putvar_l0 : ∀ (n k v : Nat) (b : List Int), v < 128 ^ (n + 1) → n < k → b.length + n < 140737488355328 → num_PutVar.l0 k b v = some (b ++ leb v) := by
  intro n
  induction n with
  | zero =>
    intro k v b hv hk hb
    obtain ⟨k, rfl⟩ : ∃ m, k = m + 1 := ⟨k - 1, by omega⟩
    simp only [num_PutVar.l0]
    rw [if_neg (by omega), if_pos (by omega), leb_small (by omega)]
    rw [Int.emod_eq_of_lt (by omega) (by omega)]
  | succ n ih =>
    intro k v b hv hk hb
    obtain ⟨k, rfl⟩ : ∃ m, k = m + 1 := ⟨k - 1, by omega⟩
    simp only [num_PutVar.l0]
    by_cases h : v < 128
    · rw [if_neg (by omega), if_pos (by omega), leb_small h, Int.emod_eq_of_lt (by omega) (by omega)]
    · rw [if_pos (by omega), if_pos (by omega), Lib.u8_or128_any _ (by omega) (by omega), leb_big h]
      have e : (v : Int) / 128 = ((v / 128 : Nat) : Int) := by omega
      rw [e, ih k (v / 128) _ (by rw [Nat.div_lt_iff_lt_mul (by decide)]; rw [Nat.pow_succ] at hv; omega) (by omega) (by simp; omega)]
      have e2 : (v : Int) % 256 % 128 + 128 = ((v % 128 + 128 : Nat) : Int) := by omega
      rw [e2]; simp
theorem putvar_f {v : Int} {b : List Int} {k : Nat} (h0 : 0 ≤ v) (h1 : v < 18446744073709551616) (hk : 10 ≤ k) (hb : b.length < 140737488000000) : num_PutVar.f k b v = some (b ++ leb v.toNat) := by
  obtain ⟨n, rfl⟩ := Int.eq_ofNat_of_zero_le h0
  unfold num_PutVar.f
  exact putvar_l0 9 k n b (Nat.lt_trans (by omega) p128) (by omega) (by omega)

/-! bytes as one number, and back -/
def leN : List Int → Nat
  | [] => 0
  | x :: xs => x.toNat + 256 * leN xs
def digs : Nat → Nat → List Int
  | 0, _ => []
  | s + 1, N => ((N % 256 : Nat) : Int) :: digs s (N / 256)
def Bytes (xs : List Int) : Prop := ∀ x ∈ xs, 0 ≤ x ∧ x < 256
theorem digs_length : ∀ s N, (digs s N).length = s := by
  intro s; induction s with
  | zero => intro N; rfl
  | succ s ih => intro N; simp [digs, ih]
theorem digs_leN : ∀ (xs : List Int), Bytes xs → digs xs.length (leN xs) = xs := by
  intro xs; induction xs with
  | nil => intro _; rfl
  | cons x xs ih =>
    intro h
    have hx := h x (by simp)
    have := ih (fun y hy => h y (by simp [hy]))
    simp only [List.length_cons, digs, leN]
    have e1 : (x.toNat + 256 * leN xs) % 256 = x.toNat := by omega
    have e2 : (x.toNat + 256 * leN xs) / 256 = leN xs := by omega
    rw [e1, e2, this, Int.toNat_of_nonneg hx.1]
theorem leN_digs : ∀ s N, N < 256 ^ s → leN (digs s N) = N := by
  intro s; induction s with
  | zero => intro N h; simp at h; simp [digs, leN, h]
  | succ s ih =>
    intro N h
    simp only [digs, leN]
    rw [ih (N / 256) (by rw [Nat.div_lt_iff_lt_mul (by decide)]; rw [Nat.pow_succ] at h; exact h)]
    omega
theorem digs_bytes : ∀ s N, Bytes (digs s N) := by
  intro s; induction s with
  | zero => intro N x hx; simp [digs] at hx
  | succ s ih =>
    intro N x hx
    simp only [digs, List.mem_cons] at hx
    rcases hx with rfl | hx
    · omega
    · exact ih _ x hx
theorem leN_set : ∀ (xs : List Int) (q : Nat) (v d : Int) (h : q < xs.length), 0 ≤ xs[q] → 0 ≤ d → v = xs[q] + d → leN (xs.set q v) = leN xs + 256 ^ q * d.toNat := by
  intro xs; induction xs with
  | nil => intro q v d h; simp at h
  | cons x xs ih =>
    intro q v d h h0 hd hv
    cases q with
    | zero =>
      simp only [List.getElem_cons_zero] at h0 hv
      simp only [List.set_cons_zero, leN, Nat.pow_zero, Nat.one_mul]; omega
    | succ q =>
      simp only [List.getElem_cons_succ] at h0 hv
      have := ih q v d (by simpa using h) h0 hd hv
      simp only [List.set_cons_succ, leN, this, Nat.pow_succ, Nat.mul_add]
      have : 256 * (256 ^ q * d.toNat) = 256 ^ q * 256 * d.toNat := by rw [Nat.mul_comm (256 ^ q) 256, Nat.mul_assoc]
      omega
theorem leN_lt : ∀ (xs : List Int), Bytes xs → leN xs < 256 ^ xs.length := by
  intro xs; induction xs with
  | nil => intro _; simp [leN]
  | cons x xs ih =>
    intro h
    have hx := h x (by simp)
    have := ih (fun y hy => h y (by simp [hy]))
    simp only [leN, List.length_cons, Nat.pow_succ]; omega
theorem leN_at : ∀ (xs : List Int) (q : Nat) (h : q < xs.length), Bytes xs → (xs[q]).toNat = leN xs / 256 ^ q % 256 := by
  intro xs; induction xs with
  | nil => intro q h; simp at h
  | cons x xs ih =>
    intro q h hb
    have hx := hb x (by simp)
    cases q with
    | zero => simp only [List.getElem_cons_zero, leN, Nat.pow_zero, Nat.div_one]; omega
    | succ q =>
      have := ih q (by simpa using h) (fun y hy => hb y (by simp [hy]))
      simp only [List.getElem_cons_succ, leN, this, Nat.pow_succ]
      rw [Nat.mul_comm (256 ^ q) 256, ← Nat.div_div_eq_div_mul]
      have e : (x.toNat + 256 * leN xs) / 256 = leN xs := by omega
      rw [e]
theorem leN_zeros : ∀ n, leN (List.replicate n 0) = 0 := by
  intro n; induction n with
  | zero => rfl
  | succ n ih => simp [List.replicate_succ, leN, ih]
/-- numbers of w bits each as one number -/
def numN (w : Nat) : List Int → Nat
  | [] => 0
  | x :: xs => x.toNat + 2 ^ w * numN w xs
theorem numN_append (w : Nat) : ∀ (xs ys : List Int), numN w (xs ++ ys) = numN w xs + 2 ^ (w * xs.length) * numN w ys := by
  intro xs; induction xs with
  | nil => intro ys; simp [numN]
  | cons x xs ih =>
    intro ys
    simp only [List.cons_append, numN, ih, List.length_cons, Nat.mul_add, Nat.mul_one, Nat.pow_add]
    have : 2 ^ w * (2 ^ (w * xs.length) * numN w ys) = 2 ^ (w * xs.length) * 2 ^ w * numN w ys := by rw [Nat.mul_comm (2 ^ (w * xs.length)) (2 ^ w), Nat.mul_assoc]
    omega
theorem numN_lt (w : Nat) : ∀ (xs : List Int), (∀ x ∈ xs, x.toNat < 2 ^ w) → numN w xs < 2 ^ (w * xs.length) := by
  intro xs; induction xs with
  | nil => intro _; simp [numN]
  | cons x xs ih =>
    intro h
    have hx := h x (by simp)
    have := ih (fun y hy => h y (by simp [hy]))
    simp only [numN, List.length_cons, Nat.mul_add, Nat.mul_one, Nat.pow_add]
    have : 2 ^ w * (numN w xs + 1) ≤ 2 ^ w * 2 ^ (w * xs.length) := Nat.mul_le_mul_left _ (by omega)
    rw [Nat.mul_add, Nat.mul_one, Nat.mul_comm (2 ^ w) (2 ^ (w * xs.length))] at this
    omega

/-! bits.Size, fits, Pack -/
def sizeN (n w : Nat) : Nat := (n * w + 7) / 8
def okSize (n w : Int) : Prop := 0 ≤ n ∧ n ≤ 65536 ∧ 0 ≤ w ∧ w ≤ 64
instance (n w : Int) : Decidable (okSize n w) := inferInstanceAs (Decidable (_ ∧ _))
theorem mul_le_64 {n w : Int} (h : okSize n w) : 0 ≤ n * w ∧ n * w ≤ 65536 * 64 :=
  ⟨Int.mul_nonneg h.1 h.2.2.1, Int.le_trans (Int.mul_le_mul_of_nonneg_right h.2.1 h.2.2.1) (Int.mul_le_mul_of_nonneg_left h.2.2.2 (by decide))⟩
theorem size_f (n w : Int) : bits_Size.f n w = some (if okSize n w then ((sizeN n.toNat w.toNat : Nat) : Int) else -1) := by
  unfold bits_Size.f
  by_cases h : okSize n w
  · have hm := mul_le_64 h
    have hh := h
    obtain ⟨h1, h2, h3, h4⟩ := hh
    rw [if_neg (by omega), if_neg (by omega), if_neg (by omega), if_neg (by omega), if_pos h, w64 (n := n * w) (by omega) (by omega), w64 (n := n * w + 7) (by omega) (by omega), Int.tdiv_eq_ediv_of_nonneg (by omega), w64 (by omega) (by omega)]
    have e : n * w = ((n.toNat * w.toNat : Nat) : Int) := by
      rw [Int.natCast_mul, Int.toNat_of_nonneg h1, Int.toNat_of_nonneg h3]
    unfold sizeN; rw [e]; congr 1
  · rw [if_neg h]
    unfold okSize at h
    by_cases c1 : n < 0
    · rw [if_pos c1]
    rw [if_neg c1]
    by_cases c2 : n > 65536
    · rw [if_pos c2]
    rw [if_neg c2]
    by_cases c3 : w < 0
    · rw [if_pos c3]
    rw [if_neg c3]
    by_cases c4 : w > 64
    · rw [if_pos c4]
    exact absurd ⟨by omega, by omega, by omega, by omega⟩ h
theorem shr64 {x : Int} {n : Nat} (h0 : 0 ≤ x) (h1 : x < 18446744073709551616) : shr .u64 x n = ((x.toNat / 2 ^ n : Nat) : Int) := by
  obtain ⟨a, rfl⟩ := Int.eq_ofNat_of_zero_le h0
  have ha : a < 2 ^ 64 := by omega
  unfold shr
  have hb : IntKind.u64.bits = 64 := rfl
  rw [hb]
  show (a : Int) / 2 ^ min (n : Int).toNat 64 = _
  rw [Int.toNat_natCast]
  by_cases h : n ≤ 64
  · rw [Nat.min_eq_left h]; simp
  · rw [Nat.min_eq_right (by omega)]
    have h64 : (2 : Nat) ^ 64 ≤ 2 ^ n := Nat.pow_le_pow_right (by decide) (by omega)
    have e1 : a / 2 ^ n = 0 := Nat.div_eq_of_lt (by omega)
    have e2 : a / 2 ^ 64 = 0 := Nat.div_eq_of_lt ha
    have : ((a / 2 ^ 64 : Nat) : Int) = (a : Int) / 2 ^ 64 := by simp
    rw [Int.toNat_natCast, e1, ← this, e2]
theorem fits_f {v w : Int} (h0 : 0 ≤ v) (h1 : v < 18446744073709551616) (hw0 : 0 ≤ w) (hw : w ≤ 64) : bits_fits.f v w = some (decide (v.toNat < 2 ^ w.toNat)) := by
  obtain ⟨n, rfl⟩ := Int.eq_ofNat_of_zero_le hw0
  unfold bits_fits.f
  by_cases c : (n : Int) = 64
  · rw [if_pos c]
    have : n = 64 := by omega
    subst this
    rw [decide_eq_true]; simp; omega
  · rw [if_neg c, u64w_id (by omega) (by omega), if_pos (by omega), shr64 h0 h1]
    congr 1
    rw [Int.toNat_natCast, Bool.eq_iff_iff]
    simp only [beq_iff_eq, decide_eq_true_eq]
    constructor
    · intro h
      have h2 : v.toNat / 2 ^ n = 0 := by omega
      rcases Nat.div_eq_zero_iff.1 h2 with h3 | h3
      · exact absurd h3 (Nat.ne_of_gt (Nat.two_pow_pos n))
      · exact h3
    · intro h
      rw [Nat.div_eq_of_lt h]; rfl
theorem pow8 (q r : Nat) : 2 ^ (8 * q + r) = 256 ^ q * 2 ^ r := by rw [Nat.pow_add, Nat.pow_mul]
theorem pack_step (S v q r take : Nat) (hr : r < 8) (ht : take ≤ 8 - r) (hc : take = 8 - r ∨ v < 2 ^ take) :
    S + 256 ^ q * (v * 2 ^ r % 256) + (v / 2 ^ take) * 2 ^ (8 * q + r + take) = S + v * 2 ^ (8 * q + r) := by
  rw [show 8 * q + r + take = 8 * q + (r + take) by omega, pow8, pow8]
  have key : v * 2 ^ r % 256 + (v / 2 ^ take) * 2 ^ (r + take) = v * 2 ^ r := by
    rcases hc with h | h
    · subst h
      have e : r + (8 - r) = 8 := by omega
      rw [e]
      have e2 : v * 2 ^ r / 256 = v / 2 ^ (8 - r) := by
        have : (256 : Nat) = 2 ^ (8 - r) * 2 ^ r := by rw [← Nat.pow_add, show 8 - r + r = 8 by omega]
        rw [this, Nat.mul_div_mul_right _ _ (Nat.two_pow_pos r)]
      rw [← e2]
      have := Nat.mod_add_div (v * 2 ^ r) 256
      omega
    · have e : v / 2 ^ take = 0 := Nat.div_eq_of_lt h
      rw [e, Nat.zero_mul, Nat.add_zero]
      apply Nat.mod_eq_of_lt
      have h1 : v * 2 ^ r < 2 ^ take * 2 ^ r := Nat.mul_lt_mul_of_pos_right h (Nat.two_pow_pos r)
      rw [← Nat.pow_add] at h1
      have h2 : 2 ^ (take + r) ≤ 2 ^ 8 := Nat.pow_le_pow_right (by decide) (by omega)
      omega
  have : (v / 2 ^ take) * (256 ^ q * 2 ^ (r + take)) = 256 ^ q * ((v / 2 ^ take) * 2 ^ (r + take)) := by rw [← Nat.mul_assoc, Nat.mul_comm (v / 2 ^ take), Nat.mul_assoc]
  rw [this, Nat.add_assoc, ← Nat.mul_add, key, ← Nat.mul_assoc, Nat.mul_comm (256 ^ q) v, Nat.mul_assoc]
theorem or_u8 {a b : Int} {r : Nat} (hr : r < 8) (ha0 : 0 ≤ a) (ha : a.toNat < 2 ^ r) (hb0 : 0 ≤ b) (hb : b < 256) (hd : b.toNat % 2 ^ r = 0) : bits .or .u8 a b = a + b := by
  obtain ⟨m, rfl⟩ := Int.eq_ofNat_of_zero_le ha0
  obtain ⟨n, rfl⟩ := Int.eq_ofNat_of_zero_le hb0
  simp only [Int.toNat_natCast] at ha hd
  have h8 : 2 ^ r ≤ 2 ^ 8 := Nat.pow_le_pow_right (by decide) (by omega)
  rw [(bits_nat .u8 8 (by decide) wraps_u8 m n (by omega) (by omega)).2, Nat.or_comm]
  have hq : n = 2 ^ r * (n / 2 ^ r) := by have := Nat.div_add_mod n (2 ^ r); omega
  rw [hq, ← Nat.two_pow_add_eq_or_of_lt ha (n / 2 ^ r), Int.natCast_add]; omega
theorem shl8 {x : Int} {r : Nat} (h0 : 0 ≤ x) (hr : r < 8) : shl .u8 (x % 256) r = ((x.toNat * 2 ^ r % 256 : Nat) : Int) := by
  obtain ⟨a, rfl⟩ := Int.eq_ofNat_of_zero_le h0
  unfold shl
  have hb : IntKind.u8.bits = 8 := rfl
  rw [hb, Int.toNat_natCast, Nat.min_eq_left (by omega), IntKind.wrap_u8]
  rw [Int.toNat_natCast, Int.mul_emod, Int.emod_emod, ← Int.mul_emod]; simp

theorem pack_byte (out : List Int) (q r v take : Nat) (hr : r < 8) (hqlen : q < out.length) (hb : Bytes out) (hN : leN out < 2 ^ (8 * q + r)) (hcase : take = 8 - r ∨ v < 2 ^ take) :
    ∃ d : Nat, d = v * 2 ^ r % 256 ∧ bits .or .u8 (out[q]) ((d : Nat) : Int) = out[q] + (d : Int) ∧ Bytes (out.set q (out[q] + (d : Int))) ∧ leN (out.set q (out[q] + (d : Int))) = leN out + 256 ^ q * d ∧ leN (out.set q (out[q] + (d : Int))) < 2 ^ (8 * q + r + take) := by
      have hbq := hb out[q] (List.getElem_mem hqlen)
      -- the byte that is turned
      have hat := leN_at out q hqlen hb
      have hsmall : (out[q]).toNat < 2 ^ r := by
        rw [hat]
        have : leN out / 256 ^ q < 2 ^ r := by
          rw [Nat.div_lt_iff_lt_mul (Nat.pow_pos (by decide)), Nat.mul_comm, ← pow8]; exact hN
        exact Nat.lt_of_le_of_lt (Nat.mod_le _ _) this
      have hd0 : v * 2 ^ r % 256 % 2 ^ r = 0 := by
        have : (256 : Nat) = 2 ^ r * 2 ^ (8 - r) := by rw [← Nat.pow_add, show r + (8 - r) = 8 by omega]
        rw [this, Nat.mod_mul_right_mod, Nat.mul_mod_left]
      obtain ⟨d, hd⟩ : ∃ d : Nat, d = v * 2 ^ r % 256 := ⟨_, rfl⟩
      have hd256 : d < 256 := by rw [hd]; exact Nat.mod_lt _ (by decide)
      have hor : bits .or .u8 (out[q]) ((d : Nat) : Int) = out[q] + (d : Int) := by
        refine or_u8 hr hbq.1 hsmall (by omega) (by omega) ?_
        rw [Int.toNat_natCast, hd]; exact hd0
      have hsum : out[q] + (d : Int) < 256 := by
        have h1 : (out[q]).toNat < 2 ^ r := hsmall
        have h2 : d = 2 ^ r * (d / 2 ^ r) := by have := Nat.div_add_mod d (2 ^ r); rw [← hd] at hd0; omega
        have h3 : d / 2 ^ r < 2 ^ (8 - r) := by
          rw [Nat.div_lt_iff_lt_mul (Nat.two_pow_pos r), ← Nat.pow_add, show 8 - r + r = 8 by omega]; exact hd256
        have h4 : 2 ^ r * (d / 2 ^ r + 1) ≤ 2 ^ r * 2 ^ (8 - r) := Nat.mul_le_mul_left _ h3
        rw [← Nat.pow_add, show r + (8 - r) = 8 by omega, Nat.mul_add, Nat.mul_one, ← h2] at h4
        omega
      have hset : leN (out.set q (out[q] + (d : Int))) = leN out + 256 ^ q * d := by
        have := leN_set out q (out[q] + (d : Int)) (d : Int) hqlen hbq.1 (by omega) rfl
        rw [Int.toNat_natCast] at this; exact this
      have hbytes : Bytes (out.set q (out[q] + (d : Int))) := by
        intro x hx
        rcases List.mem_or_eq_of_mem_set hx with h | h
        · exact hb x h
        · omega
      have hNew : leN (out.set q (out[q] + (d : Int))) < 2 ^ (8 * q + r + take) := by
        rw [hset, show 8 * q + r + take = 8 * q + (r + take) by omega, pow8]
        have h1 : leN out < 256 ^ q * 2 ^ r := by rw [← pow8]; exact hN
        have h2 : d + 2 ^ r ≤ 2 ^ (r + take) := by
          have g2 : d = 2 ^ r * (d / 2 ^ r) := by have := Nat.div_add_mod d (2 ^ r); rw [← hd] at hd0; omega
          have g3 : d / 2 ^ r < 2 ^ take := by
            rcases hcase with hc | hc
            · rw [hc, Nat.div_lt_iff_lt_mul (Nat.two_pow_pos r), ← Nat.pow_add, show 8 - r + r = 8 by omega]; exact hd256
            · have : d ≤ v * 2 ^ r := by rw [hd]; exact Nat.mod_le _ _
              rw [Nat.div_lt_iff_lt_mul (Nat.two_pow_pos r)]
              exact Nat.lt_of_le_of_lt this (Nat.mul_lt_mul_of_pos_right hc (Nat.two_pow_pos r))
          have g4 : 2 ^ r * (d / 2 ^ r + 1) ≤ 2 ^ r * 2 ^ take := Nat.mul_le_mul_left _ g3
          rw [← Nat.pow_add, Nat.mul_add, Nat.mul_one, ← g2] at g4
          exact g4
        have h3 : 256 ^ q * (d + 2 ^ r) ≤ 256 ^ q * 2 ^ (r + take) := Nat.mul_le_mul_left _ h2
        rw [Nat.mul_add] at h3
        omega
      exact ⟨d, hd, hor, hbytes, hset, hNew⟩

theorem n64 {v : Nat} (h : v < 18446744073709551616) : (v : Int) < 18446744073709551616 := by omega
theorem pk_q {q r left ol : Nat} (hlen : 8 * q + r + left ≤ 8 * ol) (hol : ol < 10000000) : q < 10000000 := by omega
theorem pk_ql {q r left ol : Nat} (hlen : 8 * q + r + left ≤ 8 * ol) (hz : ¬ left = 0) : q < ol := by omega
theorem pk_case {r left take : Nat} (h : take = min (8 - r) left) : take = 8 - r ∨ take = left := by omega
theorem pk_tl {r left take : Nat} (h : take = min (8 - r) left) : take ≤ left ∧ take ≤ 8 - r := by omega
theorem pk_e1 (q r : Nat) (hr : r < 8) (hq : q < 100000000) : wrap64 (Int.tdiv ((8 * q + r : Nat) : Int) 8) = (q : Int) := by
  have h : Int.tdiv ((8 * q + r : Nat) : Int) 8 = (q : Int) := by
    rw [Int.tdiv_eq_ediv_of_nonneg (Int.natCast_nonneg _)]; omega
  rw [h, w64 (by omega) (by omega)]
theorem pk_e2 (q r : Nat) (hr : r < 8) : Int.tmod ((8 * q + r : Nat) : Int) 8 = (r : Int) := by
  rw [Int.tmod_eq_emod_of_nonneg (Int.natCast_nonneg _)]; omega
theorem pk_e3 (r left take : Nat) (hr : r < 8) (h : take = min (8 - r) left) : mn (wrap64 (8 - (r : Int))) (left : Int) = (take : Int) := by
  rw [w64 (by omega) (by omega)]; unfold mn; split <;> omega
theorem pk_small (q r left take m q' r' ol : Nat) (hr : r < 8) (hq : q < 10000000) (hm : left ≤ m + 1) (h64 : left ≤ 64) (htk : take = min (8 - r) left) (hz : ¬ left = 0) (hqr : 8 * q + r + take = 8 * q' + r') (hr' : r' < 8) (hlen : 8 * q + r + left ≤ 8 * ol) (hol : ol < 10000000) :
    left - take ≤ m ∧ left - take ≤ 64 ∧ q' ≤ ol ∧ 8 * q' + r' + (left - take) ≤ 8 * ol ∧ 8 * q' + r' + (left - take) = 8 * q + r + left ∧ (left : Int) > 0 ∧ 0 ≤ (q : Int) ∧ (q : Int) < (ol : Int) ∧ IntKind.u64.wrap (r : Int) = (r : Int) ∧ 0 ≤ (r : Int) ∧ IntKind.u64.wrap (take : Int) = (take : Int) ∧ 0 ≤ (take : Int) ∧
    wrap64 (((8 * q + r : Nat) : Int) + (take : Int)) = ((8 * q' + r' : Nat) : Int) ∧ wrap64 ((left : Int) - (take : Int)) = ((left - take : Nat) : Int) := by
  refine ⟨by omega, by omega, by omega, by omega, by omega, by omega, by omega, by omega, u64w_id (by omega) (by omega), by omega, u64w_id (by omega) (by omega), by omega, ?_, ?_⟩
  · rw [w64 (by omega) (by omega)]; omega
  · rw [w64 (by omega) (by omega)]; omega
theorem pack_l1 (w : Int) (L : List Int) (n i : Int) : ∀ (m left : Nat) (out : List Int) (q r : Nat) (v : Nat), left ≤ m → left ≤ 64 → r < 8 → out.length < 10000000 → v < 2 ^ left → v < 18446744073709551616 → Bytes out → leN out < 2 ^ (8 * q + r) → 8 * q + r + left ≤ 8 * out.length →
    ∃ out', Bytes out' ∧ out'.length = out.length ∧ leN out' = leN out + v * 2 ^ (8 * q + r) ∧ ∀ res, Ev (fun k => bits_Pack.l0 k w out' ((8 * q + r + left : Nat) : Int) L n (wrap64 (i + 1))) res → Ev (fun k => bits_Pack.l1 k w out ((8 * q + r : Nat) : Int) v left L n i) res := by
  intro m
  induction m with
  | zero =>
    intro left out q r v hm h64 hr hol hv hv64 hb hN hlen
    have hl : left = 0 := by omega
    subst hl
    have hv0 : v = 0 := by simpa using hv
    subst hv0
    refine ⟨out, hb, rfl, by simp, ?_⟩
    intro res h
    refine Ev.step (f := fun k => bits_Pack.l0 k w out ((8 * q + r + 0 : Nat) : Int) L n (wrap64 (i + 1))) (fun k => ?_) h
    simp only [bits_Pack.l1]
    rw [if_neg (by omega), Nat.add_zero]
  | succ m ih =>
    intro left out q r v hm h64 hr hol hv hv64 hb hN hlen
    by_cases hz : left = 0
    · subst hz
      have hv0 : v = 0 := by simpa using hv
      subst hv0
      refine ⟨out, hb, rfl, by simp, ?_⟩
      intro res h
      refine Ev.step (f := fun k => bits_Pack.l0 k w out ((8 * q + r + 0 : Nat) : Int) L n (wrap64 (i + 1))) (fun k => ?_) h
      simp only [bits_Pack.l1]
      rw [if_neg (by omega), Nat.add_zero]
    · obtain ⟨take, htk⟩ : ∃ t, t = min (8 - r) left := ⟨_, rfl⟩
      obtain ⟨htl, ht8⟩ := pk_tl htk
      have hqlen : q < out.length := pk_ql hlen hz
      have hbq := hb out[q] (List.getElem_mem hqlen)
      have e1 := pk_e1 q r hr (Nat.lt_trans (pk_q hlen hol) (by decide))
      have e2 := pk_e2 q r hr
      have e3 := pk_e3 r left take hr htk
      obtain ⟨q', r', hqr, hr'⟩ : ∃ q' r', 8 * q + r + take = 8 * q' + r' ∧ r' < 8 := ⟨(8 * q + r + take) / 8, (8 * q + r + take) % 8, (Nat.div_add_mod _ 8).symm, Nat.mod_lt _ (by decide)⟩
      obtain ⟨g1, g2, g3, g4, g5, p1, p2, p3, p4, p5, p6, p7, t1, t2⟩ := pk_small q r left take m q' r' out.length hr (pk_q hlen hol) hm h64 htk hz hqr hr' hlen hol
      have hcase : take = 8 - r ∨ v < 2 ^ take := (pk_case htk).imp id (fun h => by rw [h]; exact hv)
      obtain ⟨d, hd, hor, hbytes, hset, hNew⟩ := pack_byte out q r v take hr hqlen hb hN hcase
      have hstep := pack_step (leN out) v q r take hr ht8 hcase
      have hvdiv : v / 2 ^ take < 2 ^ (left - take) := by
        rw [Nat.div_lt_iff_lt_mul (Nat.two_pow_pos take), ← Nat.pow_add, Nat.sub_add_cancel htl]; exact hv
      obtain ⟨out', hb', hl', hN', hgo⟩ := ih (left - take) (out.set q (out[q] + (d : Int))) q' r' (v / 2 ^ take) g1 g2 hr' (by rw [List.length_set]; exact hol) hvdiv (Nat.lt_of_le_of_lt (Nat.div_le_self _ _) hv64) hbytes (by rw [← hqr]; exact hNew) (by rw [List.length_set]; exact g4)
      refine ⟨out', hb', by rw [hl', List.length_set], ?_, ?_⟩
      · rw [hN', hset, ← hqr, hd]; exact hstep
      · intro res h
        refine Ev.step (fun k => ?_) (hgo res (by rw [g5]; exact h))
        simp only [bits_Pack.l1]
        rw [if_pos p1, e1, if_pos p2, if_pos p3, e2, p4, if_pos p5, e3, p6, if_pos p7]
        have s2 : shl .u8 ((v : Int) % 256) (r : Int) = ((d : Nat) : Int) := by rw [shl8 (Int.natCast_nonneg _) hr, Int.toNat_natCast, hd]
        have s3 : shr .u64 (v : Int) (take : Int) = ((v / 2 ^ take : Nat) : Int) := by rw [shr64 (Int.natCast_nonneg _) (n64 hv64), Int.toNat_natCast]
        rw [rd_get hqlen, s2, s3, hor, Int.toNat_natCast, t1, t2]

theorem pack_l0 (w : Nat) (hw : w ≤ 64) (L : List Int) (hn : L.length ≤ 65536) (hL : ∀ x ∈ L, 0 ≤ x ∧ x < 18446744073709551616 ∧ x.toNat < 2 ^ w) :
    ∀ (d i : Nat) (out : List Int), L.length = i + d → out.length < 10000000 → Bytes out → leN out = numN w (L.take i) → w * L.length ≤ 8 * out.length →
      Ev (fun k => bits_Pack.l0 k w out ((w * i : Nat) : Int) L L.length i) (digs out.length (numN w L), 0) := by
  intro d
  induction d with
  | zero =>
    intro i out hd hol hb hN hlen
    refine Ev.step (f := fun _ => some (digs out.length (numN w L), 0)) (fun k => ?_) (Ev.now _)
    simp only [bits_Pack.l0]
    rw [if_neg (by omega)]
    have : L.take i = L := List.take_of_length_le (by omega)
    rw [this] at hN
    rw [← hN, digs_leN out hb]
  | succ d ih =>
    intro i out hd hol hb hN hlen
    have hx := hL L[i] (List.getElem_mem (by omega))
    have hwi : w * i ≤ 64 * 65536 := Nat.mul_le_mul hw (by omega)
    have hlt : leN out < 2 ^ (w * i) := by
      rw [hN]
      have := numN_lt w (L.take i) (fun x hx => (hL x (List.mem_of_mem_take hx)).2.2)
      rw [List.length_take, Nat.min_eq_left (by omega)] at this; exact this
    have hqr : w * i = 8 * (w * i / 8) + w * i % 8 := by omega
    have hsum : w * i + w ≤ w * L.length := by
      have : w * (i + 1) ≤ w * L.length := Nat.mul_le_mul_left _ (by omega)
      rw [Nat.mul_add, Nat.mul_one] at this; exact this
    obtain ⟨out', hb', hl', hN', hgo⟩ := pack_l1 (w : Int) L L.length i w w out (w * i / 8) (w * i % 8) (L[i]).toNat (Nat.le_refl _) hw (Nat.mod_lt _ (by decide)) hol hx.2.2 (by omega) hb (by rw [← hqr]; exact hlt) (by rw [← hqr]; omega)
    rw [← hqr] at hN' hgo
    have htake : L.take (i + 1) = L.take i ++ [L[i]] := by rw [List.take_succ_eq_append_getElem (by omega)]
    have hrec := ih (i + 1) out' (by omega) (by rw [hl']; exact hol) hb' (by
      rw [hN', htake, numN_append, List.length_take, Nat.min_eq_left (by omega), hN]
      simp only [numN, Nat.mul_zero, Nat.add_zero]; rw [Nat.mul_comm (L[i]).toNat]) (by rw [hl']; exact hlen)
    rw [hl'] at hrec
    refine Ev.step (fun k => ?_) (hgo _ (by
      rw [w64 (by omega) (by omega)]
      have e1 : w * (i + 1) = w * i + w := by rw [Nat.mul_add, Nat.mul_one]
      rw [e1] at hrec
      simp only [Int.natCast_add, Int.natCast_one] at hrec ⊢
      exact hrec))
    simp only [bits_Pack.l0]
    rw [if_pos (by omega), if_pos (by omega), if_pos (by omega), rd_get (by omega), fits_f hx.1 hx.2.1 (by omega) (by omega), Option.bind_some, Int.toNat_natCast, decide_eq_true hx.2.2, if_pos rfl, Int.toNat_of_nonneg hx.1]
/-- a number that doesn't fit -/
theorem pack_l0_bad (w : Nat) (hw : w ≤ 64) (L : List Int) (hn : L.length ≤ 65536) (hL : ∀ x ∈ L, 0 ≤ x ∧ x < 18446744073709551616) :
    ∀ (d i : Nat) (out : List Int), L.length = i + d → (∃ x ∈ L.drop i, ¬ x.toNat < 2 ^ w) → (∀ x ∈ L.take i, x.toNat < 2 ^ w) → out.length < 10000000 → Bytes out → leN out = numN w (L.take i) → w * L.length ≤ 8 * out.length →
      Ev (fun k => bits_Pack.l0 k w out ((w * i : Nat) : Int) L L.length i) ([], 5) := by
  intro d
  induction d with
  | zero =>
    intro i out hd hbad _ _ hb hN hlen
    obtain ⟨x, hx, _⟩ := hbad
    rw [List.drop_of_length_le (by omega)] at hx; simp at hx
  | succ d ih =>
    intro i out hd hbad hgood hol hb hN hlen
    have hx := hL L[i] (List.getElem_mem (by omega))
    by_cases hf : (L[i]).toNat < 2 ^ w
    · have hwi : w * i ≤ 64 * 65536 := Nat.mul_le_mul hw (by omega)
      have hlt : leN out < 2 ^ (w * i) := by
        rw [hN]
        have := numN_lt w (L.take i) hgood
        rw [List.length_take, Nat.min_eq_left (by omega)] at this; exact this
      have hqr : w * i = 8 * (w * i / 8) + w * i % 8 := by omega
      have hsum : w * i + w ≤ w * L.length := by
        have : w * (i + 1) ≤ w * L.length := Nat.mul_le_mul_left _ (by omega)
        rw [Nat.mul_add, Nat.mul_one] at this; exact this
      obtain ⟨out', hb', hl', hN', hgo⟩ := pack_l1 (w : Int) L L.length i w w out (w * i / 8) (w * i % 8) (L[i]).toNat (Nat.le_refl _) hw (Nat.mod_lt _ (by decide)) hol hf (by omega) hb (by rw [← hqr]; exact hlt) (by rw [← hqr]; omega)
      rw [← hqr] at hN' hgo
      have htake : L.take (i + 1) = L.take i ++ [L[i]] := by rw [List.take_succ_eq_append_getElem (by omega)]
      have hrec := ih (i + 1) out' (by omega) (by
          obtain ⟨x, hxd, hxx⟩ := hbad
          have hxd' : x ∈ L[i] :: L.drop (i + 1) := by rw [← dropc L i (by omega)]; exact hxd
          rcases List.mem_cons.1 hxd' with e | h
          · exact absurd (by rw [e]; exact hf) hxx
          · exact ⟨x, h, hxx⟩) (by
          intro x hx
          rw [htake] at hx
          rcases List.mem_append.1 hx with hx | hx
          · exact hgood x hx
          · simp at hx; rw [hx]; exact hf) (by rw [hl']; exact hol) hb' (by
        rw [hN', htake, numN_append, List.length_take, Nat.min_eq_left (by omega), hN]
        simp only [numN, Nat.mul_zero, Nat.add_zero]; rw [Nat.mul_comm (L[i]).toNat]) (by rw [hl']; exact hlen)
      refine Ev.step (fun k => ?_) (hgo _ (by
        rw [w64 (by omega) (by omega)]
        have e1 : w * (i + 1) = w * i + w := by rw [Nat.mul_add, Nat.mul_one]
        rw [e1] at hrec
        simp only [Int.natCast_add, Int.natCast_one] at hrec ⊢
        exact hrec))
      simp only [bits_Pack.l0]
      rw [if_pos (by omega), if_pos (by omega), if_pos (by omega), rd_get (by omega), fits_f hx.1 hx.2 (by omega) (by omega), Option.bind_some, Int.toNat_natCast, decide_eq_true hf, if_pos rfl, Int.toNat_of_nonneg hx.1]
    · refine Ev.step (f := fun _ => some ([], 5)) (fun k => ?_) (Ev.now _)
      simp only [bits_Pack.l0]
      rw [if_pos (by omega), if_pos (by omega), if_pos (by omega), rd_get (by omega), fits_f hx.1 hx.2 (by omega) (by omega), Option.bind_some, Int.toNat_natCast, decide_eq_false hf, if_neg (by decide)]
def fitAll (L : List Int) (w : Nat) : Prop := ∀ x ∈ L, x.toNat < 2 ^ w
instance (L : List Int) (w : Nat) : Decidable (fitAll L w) := inferInstanceAs (Decidable (∀ x ∈ L, x.toNat < 2 ^ w))
def packed (L : List Int) (w : Int) : List Int × Int :=
  if okSize L.length w then (if fitAll L w.toNat then (digs (sizeN L.length w.toNat) (numN w.toNat L), 0) else ([], 5)) else ([], 1)
theorem bytes_zeros (n : Nat) : Bytes (List.replicate n 0) := by intro x hx; rw [(List.mem_replicate.1 hx).2]; decide
theorem pack_f (L : List Int) (w : Int) (hL : ∀ x ∈ L, 0 ≤ x ∧ x < 18446744073709551616) : Ev (fun k => bits_Pack.f k L w) (packed L w) := by
  unfold bits_Pack.f packed
  by_cases ho : okSize L.length w
  · obtain ⟨h1, h2, h3, h4⟩ := id ho
    obtain ⟨m, rfl⟩ := Int.eq_ofNat_of_zero_le h3
    rw [if_pos ho]
    have hs : sizeN L.length m < 10000000 := by
      unfold sizeN
      have : L.length * m ≤ 65536 * 64 := Nat.mul_le_mul (by omega) (by omega)
      omega
    have hle : m * L.length ≤ 8 * sizeN L.length m := by unfold sizeN; rw [Nat.mul_comm m]; omega
    refine Ev.congr (f := fun k => bits_Pack.l0 k m (List.replicate (sizeN L.length m) 0) ((m * 0 : Nat) : Int) L L.length ((0 : Nat) : Int)) (fun k => ?_) ?_
    · rw [size_f, if_pos ho, Option.bind_some, Int.toNat_natCast, if_neg (by omega)]
      simp only [Int.toNat_natCast]
      rw [if_pos (by omega), if_pos (by omega)]; rfl
    · by_cases hf : fitAll L m
      · rw [Int.toNat_natCast, if_pos hf]
        have := pack_l0 m (by omega) L (by omega) (fun x hx => ⟨(hL x hx).1, (hL x hx).2, hf x hx⟩) L.length 0 (List.replicate (sizeN L.length m) 0) (by omega) (by rw [List.length_replicate]; exact hs) (bytes_zeros _) (by simp [leN_zeros, numN]) (by simpa using hle)
        rw [List.length_replicate] at this; exact this
      · rw [Int.toNat_natCast, if_neg hf]
        unfold fitAll at hf
        refine pack_l0_bad m (by omega) L (by omega) hL L.length 0 _ (by omega) ?_ (by simp) (by rw [List.length_replicate]; exact hs) (bytes_zeros _) (by simp [leN_zeros, numN]) (by simpa using hle)
        have hf := Classical.not_forall.1 hf
        obtain ⟨x, hx⟩ := hf
        have hx := Classical.not_imp.1 hx
        exact ⟨x, by simpa using hx.1, hx.2⟩
  · rw [if_neg ho]
    refine Ev.congr (f := fun _ => some ([], 1)) (fun k => ?_) (Ev.now _)
    rw [size_f, if_neg ho, Option.bind_some, if_pos (by decide)]

/-! math/bits.Len64, by the library's contract -/
theorem bitlen_le {v : Nat} (h : v < 18446744073709551616) : Lib.bitLen v ≤ 64 := Lib.bitLen_le v 64 (by decide) (by simpa using h)

/-! bits of numbers below powers -/
def orAll (L : List Int) : Nat := L.foldl (fun a x => a ||| x.toNat) 0
def maxW (L : List Int) : Nat := L.foldl (fun a x => max a (Lib.bitLen x.toNat)) 0
theorem pk_no (a b : Nat) : ¬ a + (1 + b) ≤ a := by omega
theorem bitlen_lt {v k : Nat} (h : Lib.bitLen v ≤ k) (hv : v < 18446744073709551616) : v < 2 ^ k := by
  refine Classical.byContradiction fun hc => ?_
  have hk : k ≤ 64 ∨ 64 < k := by omega
  rcases hk with hk | hk
  · have := Lib.bitLen_shift k v (Nat.le_of_not_lt hc) (Nat.lt_of_lt_of_eq hv (by decide))
    have hpos : 1 ≤ v / 2 ^ k := by rw [Nat.le_div_iff_mul_le (Nat.two_pow_pos k), Nat.one_mul]; exact Nat.le_of_not_lt hc
    have h2 : v / 2 ^ k < 2 ^ 64 := Nat.lt_of_le_of_lt (Nat.div_le_self _ _) (Nat.lt_of_lt_of_eq hv (by decide))
    have h3 := Lib.bitLen_half (v / 2 ^ k) (Nat.ne_of_gt hpos) h2
    rw [this, h3] at h
    exact absurd h (pk_no _ _)
  · exact hc (Nat.lt_of_lt_of_le (Nat.lt_of_lt_of_eq hv (by decide : (18446744073709551616 : Nat) = 2 ^ 64)) (Nat.pow_le_pow_right (by decide) (Nat.le_of_lt hk)))
theorem bitlen_iff {v k : Nat} (hv : v < 18446744073709551616) (hk : k ≤ 64) : Lib.bitLen v ≤ k ↔ v < 2 ^ k :=
  ⟨fun h => bitlen_lt h hv, fun h => Lib.bitLen_le v k hk h⟩
theorem bitlen_or {a b : Nat} (ha : a < 18446744073709551616) (hb : b < 18446744073709551616) : Lib.bitLen (a ||| b) = max (Lib.bitLen a) (Lib.bitLen b) := by
  have p64 : (18446744073709551616 : Nat) = 2 ^ 64 := by decide
  have hab : a ||| b < 18446744073709551616 := by rw [p64] at *; exact Nat.or_lt_two_pow ha hb
  apply Nat.le_antisymm
  · have hm : max (Lib.bitLen a) (Lib.bitLen b) ≤ 64 := Nat.max_le.2 ⟨bitlen_le ha, bitlen_le hb⟩
    rw [bitlen_iff hab hm]
    exact Nat.or_lt_two_pow (Nat.lt_of_lt_of_le (bitlen_lt (Nat.le_refl _) ha) (Nat.pow_le_pow_right (by decide) (Nat.le_max_left _ _))) (Nat.lt_of_lt_of_le (bitlen_lt (Nat.le_refl _) hb) (Nat.pow_le_pow_right (by decide) (Nat.le_max_right _ _)))
  · have h := bitlen_lt (Nat.le_refl (Lib.bitLen (a ||| b))) hab
    refine Nat.max_le.2 ⟨(bitlen_iff ha (bitlen_le hab)).2 ?_, (bitlen_iff hb (bitlen_le hab)).2 ?_⟩
    · exact Nat.lt_of_le_of_lt Nat.left_le_or h
    · exact Nat.lt_of_le_of_lt Nat.right_le_or h
theorem bitlen_zero : Lib.bitLen 0 = 0 := by decide
theorem maxW_ge : ∀ (L : List Int) (a : Nat), a ≤ L.foldl (fun m x => max m (Lib.bitLen x.toNat)) a := by
  intro L; induction L with
  | nil => intro a; exact Nat.le_refl _
  | cons x L ih => intro a; exact Nat.le_trans (Nat.le_max_left _ _) (ih _)
theorem maxW_le : ∀ (L : List Int) (a w : Nat), L.foldl (fun m x => max m (Lib.bitLen x.toNat)) a ≤ w ↔ a ≤ w ∧ ∀ x ∈ L, Lib.bitLen x.toNat ≤ w := by
  intro L; induction L with
  | nil => intro a w; simp
  | cons x L ih => intro a w; rw [List.foldl_cons, ih, Nat.max_le]; simp [and_assoc]
theorem maxW_fit (L : List Int) (w : Nat) (hw : w ≤ 64) (hL : ∀ x ∈ L, 0 ≤ x ∧ x < 18446744073709551616) : maxW L ≤ w ↔ fitAll L w := by
  unfold maxW fitAll
  rw [maxW_le]
  constructor
  · intro h x hx; exact bitlen_lt (h.2 x hx) (by have := hL x hx; omega)
  · intro h; exact ⟨Nat.zero_le _, fun x hx => (bitlen_iff (by have := hL x hx; omega) hw).2 (h x hx)⟩
theorem maxW_64 (L : List Int) (hL : ∀ x ∈ L, 0 ≤ x ∧ x < 18446744073709551616) : maxW L ≤ 64 := by
  unfold maxW
  rw [maxW_le]
  exact ⟨Nat.zero_le _, fun x hx => bitlen_le (by have := hL x hx; omega)⟩

theorem digs_split : ∀ (a b N : Nat), digs (a + b) N = digs a N ++ digs b (N / 256 ^ a) := by
  intro a
  induction a with
  | zero => intro b N; simp [digs]
  | succ a ih =>
    intro b N
    rw [show a + 1 + b = (a + b) + 1 by omega]
    simp only [digs, List.cons_append]
    rw [ih b (N / 256), Nat.div_div_eq_div_mul, Nat.pow_succ, Nat.mul_comm 256]

/-! texts: their order, the list of all that are there -/
def tb (s : ByteArray) : List UInt8 := s.data.toList
theorem tb_inj {a b : ByteArray} (h : tb a = tb b) : a = b := by
  cases a; cases b
  unfold tb at h
  simp only [ByteArray.mk.injEq]
  exact Array.toList_inj.1 h
theorem tb_toList (s : ByteArray) : s.toList = tb s := ByteArray.toList_eq s
def LT (a b : ByteArray) : Prop := tb a < tb b
theorem less_eq (a b : ByteArray) : Op.bytesLess a.toList b.toList = decide (tb a < tb b) := by rw [tb_toList, tb_toList, bytesLess_eq]
theorem bl_irrefl (a : List UInt8) : ¬ a < a := List.lt_irrefl a
theorem bl_trans {a b c : List UInt8} (h1 : a < b) (h2 : b < c) : a < c := List.lt_trans h1 h2
theorem bl_tri (a b : List UInt8) : a < b ∨ a = b ∨ b < a := by
  by_cases h : a < b
  · exact .inl h
  · by_cases h2 : b < a
    · exact .inr (.inr h2)
    · exact .inr (.inl (List.le_antisymm (List.not_lt.1 h2) (List.not_lt.1 h)))
theorem bl_le {a b : List UInt8} : a ≤ b ↔ ¬ b < a := Iff.rfl
theorem LT.ne {a b : ByteArray} (h : LT a b) : a ≠ b := fun e => by subst e; exact bl_irrefl _ h
theorem LT.asymm {a b : ByteArray} (h : LT a b) : ¬ LT b a := fun h2 => bl_irrefl _ (bl_trans h h2)
theorem LT.trans {a b c : ByteArray} (h : LT a b) (h2 : LT b c) : LT a c := bl_trans h h2
theorem LT.tri (a b : ByteArray) : LT a b ∨ a = b ∨ LT b a := (bl_tri (tb a) (tb b)).imp_right (fun h => h.imp_left tb_inj)
theorem tarr_get (zs : List (List UInt8)) (j : Nat) (h : j < zs.length) : zs.toArray[j]! = zs[j] := by simp [getElem!_pos, h]
theorem tfirst_kept (zs : List (List UInt8)) (x : List UInt8) : ∀ j, j < zs.length → zs.toArray[j]! = x → ∃ i, i < zs.length ∧ zs.toArray[i]! = x ∧ Go.Lib.keeps zs.toArray i = true := by
  intro j
  induction j with
  | zero => intro h e; exact ⟨0, h, e, Go.Lib.keeps_lt_one _ 0 (by decide)⟩
  | succ j ih =>
    intro h e
    by_cases hp : zs.toArray[j]! = x
    · exact ih (by omega) hp
    · refine ⟨j + 1, h, e, Go.Lib.keeps_pos ?_⟩
      rw [e, Nat.add_sub_cancel]; exact fun h => hp h.symm
theorem tcompact_mem (zs : List (List UInt8)) (x : List UInt8) : x ∈ Go.Lib.compact zs ↔ x ∈ zs := by
  unfold Go.Lib.compact Go.Lib.compactUpTo
  simp only [List.mem_map, List.mem_filter, List.mem_range]
  constructor
  · rintro ⟨j, ⟨hj, _⟩, rfl⟩
    rw [tarr_get zs j hj]; exact List.getElem_mem hj
  · intro hx
    obtain ⟨j, hj, hx⟩ := List.getElem_of_mem hx
    obtain ⟨i, h1, h2, h3⟩ := tfirst_kept zs x j hj (by rw [tarr_get zs j hj]; exact hx)
    exact ⟨i, ⟨h1, h3⟩, h2⟩
theorem tcompact_lt (zs : List (List UInt8)) (hs : zs.Pairwise (fun x y => x ≤ y)) : (Go.Lib.compact zs).Pairwise (fun x y => x < y) := by
  unfold Go.Lib.compact Go.Lib.compactUpTo
  rw [List.pairwise_map]
  have hr : (List.range zs.length).Pairwise (fun x y => x < y) := List.pairwise_lt_range
  refine (hr.filter _).imp_of_mem ?_
  intro a b ha hb hab
  simp only [List.mem_filter, List.mem_range] at ha hb
  have hle := List.pairwise_iff_getElem.1 hs
  have hk : ¬ zs.toArray[b]! = zs.toArray[b - 1]! := by
    intro e
    have := Go.Lib.keeps_neg (by omega) e
    rw [hb.2] at this; cases this
  rw [tarr_get zs b hb.1, tarr_get zs (b - 1) (by omega)] at hk
  rw [tarr_get zs b hb.1, tarr_get zs a ha.1]
  have h1 := hle (b - 1) b (by omega) hb.1 (by omega)
  have h3 : zs[b - 1]'(by omega) < zs[b] := by
    rcases bl_tri (zs[b - 1]'(by omega)) zs[b] with h | h | h
    · exact h
    · exact absurd h.symm hk
    · exact absurd h (bl_le.1 h1)
  by_cases e : a = b - 1
  · subst e; exact h3
  · have h2 := hle a (b - 1) ha.1 (by omega) (by omega)
    rcases bl_tri zs[a] (zs[b - 1]'(by omega)) with h | h | h
    · exact bl_trans h h3
    · rw [h]; exact h3
    · exact absurd h (bl_le.1 h2)
theorem tsorted_le (l : List (List UInt8)) : (l.mergeSort fun x y => decide (x ≤ y)).Pairwise (fun x y => x ≤ y) := by
  have := List.pairwise_mergeSort (le := fun (x y : List UInt8) => decide (x ≤ y)) (fun a b c h1 h2 => by
    simp only [decide_eq_true_eq] at *
    intro h
    rcases bl_tri a b with h3 | h3 | h3
    · exact h2 (bl_trans h h3)
    · subst h3; exact h2 h
    · exact h1 h3) (fun a b => by
    simp only [Bool.or_eq_true, decide_eq_true_eq]
    rcases bl_tri a b with h | h | h
    · exact .inl (fun h2 => bl_irrefl _ (bl_trans h h2))
    · exact .inl (by subst h; exact bl_irrefl a)
    · exact .inr (fun h2 => bl_irrefl _ (bl_trans h h2))) l
  exact this.imp (fun h => by simpa using h)
def tl (l : List ByteArray) : List ByteArray := texts_List.bs (Go.Lib.compact (texts_List.srt l))
def Asc (l : List ByteArray) : Prop := l.Pairwise LT
theorem tb_mk (x : List UInt8) : tb ⟨x.toArray⟩ = x := rfl
theorem tl_asc (l : List ByteArray) : Asc (tl l) := by
  unfold Asc tl texts_List.bs
  rw [List.pairwise_map]
  exact (tcompact_lt _ (tsorted_le (texts_List.ls l))).imp (fun h => h)
theorem tl_mem (l : List ByteArray) (x : ByteArray) : x ∈ tl l ↔ x ∈ l := by
  unfold tl texts_List.bs
  rw [List.mem_map]
  have hm : ∀ y, y ∈ Go.Lib.compact (texts_List.srt l) ↔ y ∈ texts_List.ls l := fun y => by
    rw [tcompact_mem]; exact (List.mergeSort_perm _ _).mem_iff
  constructor
  · rintro ⟨y, hy, rfl⟩
    obtain ⟨z, hz, rfl⟩ := List.mem_map.1 ((hm y).1 hy)
    have : z = (⟨z.data.toList.toArray⟩ : ByteArray) := tb_inj rfl
    rwa [← this]
  · intro hx
    exact ⟨tb x, (hm _).2 (List.mem_map.2 ⟨x, hx, rfl⟩), tb_inj rfl⟩
theorem tl_len (l : List ByteArray) : (tl l).length ≤ l.length := by
  have h1 := Go.Lib.compact_length_le (texts_List.srt l)
  have h2 : (texts_List.srt l).length = l.length := by unfold texts_List.srt texts_List.ls; rw [List.length_mergeSort, List.length_map]
  unfold tl texts_List.bs
  rw [List.length_map]; omega
theorem asc_ext : ∀ (a b : List ByteArray), Asc a → Asc b → (∀ x, x ∈ a ↔ x ∈ b) → a = b := by
  intro a
  induction a with
  | nil =>
    intro b _ _ h
    cases b with
    | nil => rfl
    | cons y b => exact absurd ((h y).2 (by simp)) (by simp)
  | cons x a ih =>
    intro b ha hb h
    cases b with
    | nil => exact absurd ((h x).1 (by simp)) (by simp)
    | cons y b =>
      obtain ⟨a1, a2⟩ := List.pairwise_cons.1 ha
      obtain ⟨b1, b2⟩ := List.pairwise_cons.1 hb
      have hxy : x = y := by
        rcases List.mem_cons.1 ((h x).1 (by simp)) with e | e
        · exact e
        · rcases List.mem_cons.1 ((h y).2 (by simp)) with e2 | e2
          · exact e2.symm
          · exact absurd (b1 x e) (LT.asymm (a1 y e2))
      subst hxy
      rw [ih b a2 b2 (fun z => ?_)]
      constructor
      · intro hz
        rcases List.mem_cons.1 ((h z).1 (by simp [hz])) with e | e
        · exact absurd e.symm (LT.ne (a1 z hz))
        · exact e
      · intro hz
        rcases List.mem_cons.1 ((h z).2 (by simp [hz])) with e | e
        · exact absurd e.symm (LT.ne (b1 z hz))
        · exact e
theorem tl_eq {l L : List ByteArray} (h1 : Asc L) (h2 : ∀ x, x ∈ L ↔ x ∈ l) : tl l = L := asc_ext _ _ (tl_asc l) h1 (fun x => by rw [tl_mem, h2])
theorem tl_f {l : List ByteArray} (h : l.length ≤ 1000000) : texts_List.f l = some (tl l) := by unfold texts_List.f; rw [if_pos (by omega)]; rfl
theorem rdo_get {xs : List ByteArray} {i : Nat} (h : i < xs.length) : rdOf ByteArray.empty xs (i : Int) = xs[i] := by simp [rdOf, h]
theorem nx {i : Nat} (h : i < 9223372036854775807) : wrap64 ((i : Int) + 1) = ((i + 1 : Nat) : Int) := by rw [w64 (by omega) (by omega)]; omega
theorem asc_at {L : List ByteArray} (hL : Asc L) {i j : Nat} (hj : j < L.length) (h : i < j) : LT (L[i]'(by omega)) L[j] := List.pairwise_iff_getElem.1 hL i j (by omega) hj h
/-! estreatref13: Place, Same, Great -/
def pl (s : ByteArray) : List ByteArray → Nat × Bool
  | [] => (0, false)
  | y :: ys => if tb y < tb s then ((pl s ys).1 + 1, (pl s ys).2) else (0, tb y == tb s)
theorem place_l0 (X : List ByteArray) (s : ByteArray) (hX : X.length ≤ 1000000) : ∀ (d j : Nat), X.length = j + d → Ev (fun k => estreatref13_Place.l0 k X s j) (((j + (pl s (X.drop j)).1 : Nat) : Int), (pl s (X.drop j)).2) := by
  intro d
  induction d with
  | zero =>
    intro j hd
    rw [List.drop_of_length_le (by omega)]
    exact Ev.step (f := fun _ => some ((j : Int), false)) (fun k => by simp only [estreatref13_Place.l0]; rw [if_neg (by omega)]) (Ev.now _)
  | succ d ih =>
    intro j hd
    have hj : j < X.length := by omega
    rw [dropc X j hj, pl]
    by_cases c : tb X[j] < tb s
    · rw [if_pos c]
      have hn := ih (j + 1) (by omega)
      rw [show j + 1 + (pl s (X.drop (j + 1))).1 = j + ((pl s (X.drop (j + 1))).1 + 1) by omega] at hn
      refine Ev.step (fun k => ?_) hn
      simp only [estreatref13_Place.l0]
      rw [if_pos (Int.ofNat_lt.2 hj), if_pos (Int.natCast_nonneg _), rdo_get hj, less_eq, decide_eq_true c, if_pos rfl, nx (by omega)]
    · rw [if_neg c]
      refine Ev.step (f := fun _ => some ((j : Int), tb X[j] == tb s)) (fun k => ?_) (Ev.now _)
      simp only [estreatref13_Place.l0]
      rw [if_pos (Int.ofNat_lt.2 hj), if_pos (Int.natCast_nonneg _), rdo_get hj, less_eq, decide_eq_false c, if_neg (by decide), tb_toList, tb_toList]
theorem place_f (X : List ByteArray) (s : ByteArray) (hX : X.length ≤ 1000000) : Ev (fun k => estreatref13_Place.f k X s) (((pl s X).1 : Int), (pl s X).2) := by
  unfold estreatref13_Place.f
  have := place_l0 X s hX X.length 0 (by omega)
  simpa using this
theorem pl_le (s : ByteArray) : ∀ X, (pl s X).1 ≤ X.length
  | [] => Nat.le_refl _
  | y :: ys => by
    rw [pl]
    split
    · exact Nat.succ_le_succ (pl_le s ys)
    · exact Nat.zero_le _
theorem pl_at (s : ByteArray) : ∀ X, Asc X → s ∈ X → X[(pl s X).1]? = some s := by
  intro X
  induction X with
  | nil => intro _ h; exact absurd h (by simp)
  | cons y ys ih =>
    intro hA h
    obtain ⟨a1, a2⟩ := List.pairwise_cons.1 hA
    rw [pl]
    by_cases e : y = s
    · subst e
      rw [if_neg (bl_irrefl _)]; rfl
    · have hm : s ∈ ys := by
        rcases List.mem_cons.1 h with h | h
        · exact absurd h.symm e
        · exact h
      have hlt : tb y < tb s := a1 s hm
      rw [if_pos hlt]
      show (y :: ys)[(pl s ys).1 + 1]? = some s
      rw [List.getElem?_cons_succ]
      exact ih a2 hm
theorem pl_get {s : ByteArray} {X : List ByteArray} (hA : Asc X) (h : s ∈ X) : ∃ hl : (pl s X).1 < X.length, X[(pl s X).1] = s := List.getElem?_eq_some_iff.1 (pl_at s X hA h)
theorem pl_iff (s : ByteArray) : ∀ X, Asc X → ∀ j (h : j < X.length), tb X[j] < tb s ↔ j < (pl s X).1 := by
  intro X
  induction X with
  | nil => intro _ j h; exact absurd h (Nat.not_lt_zero _)
  | cons y ys ih =>
    intro hA j h
    obtain ⟨a1, a2⟩ := List.pairwise_cons.1 hA
    rw [pl]
    by_cases c : tb y < tb s
    · rw [if_pos c]
      cases j with
      | zero => exact ⟨fun _ => Nat.succ_pos _, fun _ => c⟩
      | succ j =>
        have := ih a2 j (by simpa using h)
        simp only [List.getElem_cons_succ]
        rw [this]
        show j < _ ↔ j + 1 < (pl s ys).1 + 1
        omega
    · rw [if_neg c]
      refine ⟨fun h2 => absurd h2 ?_, fun h2 => absurd h2 (Nat.not_lt_zero _)⟩
      cases j with
      | zero => exact c
      | succ j =>
        simp only [List.getElem_cons_succ]
        intro h3
        exact c (bl_trans (a1 _ (List.getElem_mem (by simpa using h))) h3)
theorem pl_mem (s : ByteArray) : ∀ X, Asc X → ((pl s X).2 = true ↔ s ∈ X)
  | [], _ => by simp [pl]
  | y :: ys, hA => by
    obtain ⟨a1, a2⟩ := List.pairwise_cons.1 hA
    rw [pl]
    by_cases c : tb y < tb s
    · rw [if_pos c]
      show (pl s ys).2 = true ↔ _
      rw [pl_mem s ys a2, List.mem_cons]
      exact ⟨.inr, fun h => h.elim (fun e => absurd (e ▸ c) (bl_irrefl _)) id⟩
    · rw [if_neg c]
      show (tb y == tb s) = true ↔ _
      rw [beq_iff_eq, List.mem_cons]
      refine ⟨fun e => .inl (tb_inj e.symm), fun h => h.elim (fun e => by rw [e]) (fun h => absurd (a1 s h) c)⟩
def ins (s : ByteArray) (X : List ByteArray) : List ByteArray := if (pl s X).2 = true then X else X.take (pl s X).1 ++ [s] ++ X.drop (pl s X).1
theorem ins_cons_lt {s y : ByteArray} {ys : List ByteArray} (c : tb y < tb s) : ins s (y :: ys) = y :: ins s ys := by
  unfold ins
  rw [pl, if_pos c]
  show (if (pl s ys).2 = true then y :: ys else _) = _
  split
  · rfl
  · simp
theorem ins_mem (s : ByteArray) (X : List ByteArray) (hA : Asc X) (z : ByteArray) : z ∈ ins s X ↔ z = s ∨ z ∈ X := by
  unfold ins
  by_cases c : (pl s X).2 = true
  · rw [if_pos c]
    have := (pl_mem s X hA).1 c
    exact ⟨.inr, fun h => h.elim (fun e => by rw [e]; exact this) id⟩
  · rw [if_neg c]
    rw [show (z = s ∨ z ∈ X) ↔ (z = s ∨ z ∈ X.take (pl s X).1 ++ X.drop (pl s X).1) from by rw [List.take_append_drop]]
    simp only [List.mem_append, List.mem_singleton]
    constructor
    · rintro ((h | h) | h)
      · exact .inr (.inl h)
      · exact .inl h
      · exact .inr (.inr h)
    · rintro (h | h | h)
      · exact .inl (.inr h)
      · exact .inl (.inl h)
      · exact .inr h
theorem ins_asc (s : ByteArray) : ∀ X, Asc X → Asc (ins s X)
  | [], _ => by unfold ins Asc; simp [pl]
  | y :: ys, hA => by
    obtain ⟨a1, a2⟩ := List.pairwise_cons.1 hA
    by_cases c : tb y < tb s
    · rw [ins_cons_lt c]
      refine List.pairwise_cons.2 ⟨fun z hz => ?_, ins_asc s ys a2⟩
      rcases (ins_mem s ys a2 z).1 hz with rfl | hz
      · exact c
      · exact a1 z hz
    · unfold ins
      rw [pl, if_neg c]
      show Asc (if (tb y == tb s) = true then y :: ys else _)
      by_cases e : (tb y == tb s) = true
      · rw [if_pos e]; exact hA
      · rw [if_neg e]
        have hlt : LT s y := by
          rcases bl_tri (tb s) (tb y) with h | h | h
          · exact h
          · exact absurd (by rw [h]; simp) e
          · exact absurd h c
        show List.Pairwise LT (s :: y :: ys)
        refine List.pairwise_cons.2 ⟨fun z hz => ?_, hA⟩
        rcases List.mem_cons.1 hz with rfl | hz
        · exact hlt
        · exact hlt.trans (a1 z hz)
theorem tl_snoc (a : List ByteArray) (x : ByteArray) : tl (a ++ [x]) = ins x (tl a) := by
  refine tl_eq (ins_asc x _ (tl_asc a)) (fun z => ?_)
  rw [ins_mem _ _ (tl_asc a), tl_mem]
  simp only [List.mem_append, List.mem_singleton]
  exact ⟨fun h => h.symm, fun h => h.symm⟩
theorem tl_nil : tl [] = [] := tl_eq List.Pairwise.nil (fun x => Iff.rfl)
theorem great_l0 (l : List ByteArray) (m n : Nat) (hl : l.length ≤ maxLen) (hm : m ≤ 1000) : ∀ (d j : Nat), m = j + d → j ≤ l.length → (∀ i (h : i < l.length), i < j → l[i].size ≤ n) →
    ∃ g, Ev (fun k => estreatref13_Great.l0 k l m n j) g ∧ (g = false → l.length ≤ m ∧ ∀ x ∈ l, x.size ≤ n) := by
  have hx : maxLen ≤ 9223372036854775807 := by decide
  have fin : ∀ (j : Nat), (∀ i (h : i < l.length), i < j → l[i].size ≤ n) → (j = m ∨ j = l.length) → ∃ g, Ev (fun _ => some g) g ∧ g = decide ((l.length : Int) > (m : Int)) ∧ (g = false → l.length ≤ m ∧ ∀ x ∈ l, x.size ≤ n) := by
    intro j hsz hj
    refine ⟨decide ((l.length : Int) > (m : Int)), Ev.now _, rfl, fun hg => ?_⟩
    have : ¬ (l.length : Int) > (m : Int) := of_decide_eq_false hg
    refine ⟨by omega, fun x hx => ?_⟩
    obtain ⟨i, hi, rfl⟩ := List.getElem_of_mem hx
    exact hsz i hi (by omega)
  intro d
  induction d with
  | zero =>
    intro j hd hj hsz
    obtain ⟨g, h1, h2, h3⟩ := fin j hsz (.inl (by omega))
    refine ⟨g, ?_, h3⟩
    refine Ev.step (f := fun k => estreatref13_Great.j1 k l m n j false) (fun k => ?_) (Ev.step (f := fun _ => some g) (fun k => ?_) h1)
    · simp only [estreatref13_Great.l0]
      split
      · rw [decide_eq_false (by omega)]
      · rfl
    · simp only [estreatref13_Great.j1]
      rw [if_neg (by decide), h2]
  | succ d ih =>
    intro j hd hj hsz
    by_cases c : j < l.length
    · by_cases c2 : l[j].size ≤ n
      · obtain ⟨g, h1, h2⟩ := ih (j + 1) (by omega) (by omega) (fun i h hi => by
          by_cases e : i = j
          · subst e; exact c2
          · exact hsz i h (by omega))
        refine ⟨g, Ev.step (f := fun k => estreatref13_Great.j1 k l m n j true) (fun k => ?_) (Ev.step (fun k => ?_) h1), h2⟩
        · simp only [estreatref13_Great.l0]
          rw [if_pos (Int.ofNat_lt.2 c), decide_eq_true (by omega)]
        · simp only [estreatref13_Great.j1]
          rw [if_pos trivial, if_pos (Int.natCast_nonneg _), if_pos (Int.ofNat_lt.2 c), rdo_get c, if_neg (by omega), nx (by omega)]
      · refine ⟨true, Ev.step (f := fun k => estreatref13_Great.j1 k l m n j true) (fun k => ?_) (Ev.step (f := fun _ => some true) (fun k => ?_) (Ev.now _)), fun h => by cases h⟩
        · simp only [estreatref13_Great.l0]
          rw [if_pos (Int.ofNat_lt.2 c), decide_eq_true (by omega)]
        · simp only [estreatref13_Great.j1]
          rw [if_pos trivial, if_pos (Int.natCast_nonneg _), if_pos (Int.ofNat_lt.2 c), rdo_get c, if_pos (by omega)]
    · obtain ⟨g, h1, h2, h3⟩ := fin j hsz (.inr (by omega))
      refine ⟨g, ?_, h3⟩
      refine Ev.step (f := fun k => estreatref13_Great.j1 k l m n j false) (fun k => ?_) (Ev.step (f := fun _ => some g) (fun k => ?_) h1)
      · simp only [estreatref13_Great.l0]
        rw [if_neg (by omega)]
      · simp only [estreatref13_Great.j1]
        rw [if_neg (by decide), h2]
theorem great_f (l : List ByteArray) (m n : Nat) (hl : l.length ≤ maxLen) (hm : m ≤ 1000) : ∃ g, Ev (fun k => estreatref13_Great.f k l m n) g ∧ (g = false → l.length ≤ m ∧ ∀ x ∈ l, x.size ≤ n) := by
  unfold estreatref13_Great.f
  exact great_l0 l m n hl hm m 0 (by omega) (Nat.zero_le _) (fun i _ h => absurd h (Nat.not_lt_zero _))
theorem tsame_l0 (a b : List ByteArray) (he : a.length = b.length) (ha : a.length ≤ 1000000) : ∀ (d j : Nat), a.length = j + d → Ev (fun k => estreatref13_Same.l0 k a b j) (decide (a.drop j = b.drop j)) := by
  intro d
  induction d with
  | zero =>
    intro j hd
    rw [List.drop_of_length_le (by omega), List.drop_of_length_le (by omega)]
    exact Ev.step (f := fun _ => some true) (fun k => by simp only [estreatref13_Same.l0]; rw [if_neg (by omega)]) (Ev.now _)
  | succ d ih =>
    intro j hd
    have hj : j < a.length := by omega
    have hj2 : j < b.length := by omega
    rw [dropc a j hj, dropc b j hj2]
    by_cases c : a[j] = b[j]
    · have hn := ih (j + 1) (by omega)
      rw [show decide (a[j] :: a.drop (j + 1) = b[j] :: b.drop (j + 1)) = decide (a.drop (j + 1) = b.drop (j + 1)) from by simp only [List.cons.injEq, c, true_and]]
      refine Ev.step (fun k => ?_) hn
      simp only [estreatref13_Same.l0]
      rw [if_pos (Int.ofNat_lt.2 hj), if_pos (Int.natCast_nonneg _), if_pos (Int.ofNat_lt.2 hj2), rdo_get hj, rdo_get hj2, if_pos (by rw [c]), nx (by omega)]
    · rw [show decide (a[j] :: a.drop (j + 1) = b[j] :: b.drop (j + 1)) = false from by simp only [List.cons.injEq, c, false_and, decide_false]]
      refine Ev.step (f := fun _ => some false) (fun k => ?_) (Ev.now _)
      simp only [estreatref13_Same.l0]
      rw [if_pos (Int.ofNat_lt.2 hj), if_pos (Int.natCast_nonneg _), if_pos (Int.ofNat_lt.2 hj2), rdo_get hj, rdo_get hj2, if_neg (fun e => c (tb_inj (by rw [← tb_toList, ← tb_toList]; exact e)))]
theorem tsame_f (a b : List ByteArray) (ha : a.length ≤ 1000000) : Ev (fun k => estreatref13_Same.f k a b) (decide (a = b)) := by
  unfold estreatref13_Same.f
  by_cases he : a.length = b.length
  · have e : (a.length : Int) = (b.length : Int) := by omega
    simp only [if_pos e]
    have := tsame_l0 a b he ha a.length 0 (by omega)
    simpa using this
  · have e : ¬ (a.length : Int) = (b.length : Int) := by omega
    simp only [if_neg e]
    rw [decide_eq_false (fun h => he (by rw [h]))]
    exact Ev.now _

/-! texts.Put -/
def wd (n : Nat) : Nat := Lib.bitLen (n - 1)
theorem wd_64 (n : Nat) (hn : n ≤ 65536) : wd n ≤ 64 := bitlen_le (by omega)
theorem putvar_ev {v : Int} {b : List Int} (h0 : 0 ≤ v) (h1 : v < 18446744073709551616) (hb : b.length < 140737488000000) : Ev (fun k => num_PutVar.f k b v) (b ++ leb v.toNat) := ⟨10, fun k hk => putvar_f h0 h1 hk hb⟩
def blob (s : ByteArray) : List Int := leb s.size ++ num_PutBlobS.bs s
def blobs : List ByteArray → List Int
  | [] => []
  | s :: r => blob s ++ blobs r
def tplaces (L l : List ByteArray) : List Int := l.map (fun s => (((pl s L).1 : Nat) : Int))
def textOf (l : List ByteArray) : List Int := leb (tl l).length ++ blobs (tl l) ++ [(wd (tl l).length : Int)] ++ (packed (tplaces (tl l) l) (wd (tl l).length)).1
theorem blob_len {s : ByteArray} (h : s.size ≤ 65536) : (blob s).length ≤ 70000 := by
  have h10 := leb_length10 (v := s.size) (by omega)
  unfold blob
  rw [List.length_append, num_PutBlobS.bs_length]; omega
theorem blobs_len : ∀ (L : List ByteArray), (∀ s ∈ L, s.size ≤ 65536) → (blobs L).length ≤ 70000 * L.length
  | [], _ => Nat.zero_le _
  | s :: r, h => by
    have h1 := blob_len (h s (by simp))
    have h2 := blobs_len r (fun x hx => h x (by simp [hx]))
    rw [blobs, List.length_append, List.length_cons]; omega
theorem putblob_ev {b : List Int} {s : ByteArray} (hb : b.length ≤ 5000000000) (hs : s.size ≤ 65536) : Ev (fun k => num_PutBlobS.f k b s) (b ++ blob s) := by
  unfold num_PutBlobS.f num_PutBlob.f blob
  have hl := num_PutBlobS.bs_length s
  have h10 := leb_length10 (v := s.size) (by omega)
  have e : IntKind.u64.wrap ((num_PutBlobS.bs s).length : Int) = (s.size : Int) := by rw [hl, u64w_id (by omega) (by omega)]
  rw [e]
  have hp := putvar_ev (b := b) (v := (s.size : Int)) (by omega) (by omega) (by omega)
  rw [Int.toNat_natCast] at hp
  refine Ev.bind hp ?_
  have c : (b ++ leb s.size).length + (num_PutBlobS.bs s).length < 140737488355328 := by rw [List.length_append, hl]; omega
  simp only [if_pos c, List.append_assoc]
  exact Ev.now _
theorem texts_width_f (n : Nat) (hn : n ≤ 65536) : texts_width.f (n : Int) = some (wd n : Int) := by
  have e : IntKind.u64.wrap (mx (wrap64 ((n : Int) - 1)) 0) = ((n - 1 : Nat) : Int) := by
    rw [w64 (by omega) (by omega)]
    unfold mx
    split <;> (rw [u64w_id (by omega) (by omega)]; omega)
  unfold texts_width.f bits_Len.f wd
  rw [e, if_pos (Int.natCast_nonneg _), if_pos (by omega), Option.bind_some, Int.toNat_natCast]
theorem tplaces_len (L l : List ByteArray) : (tplaces L l).length = l.length := by simp [tplaces]
theorem tplaces_fit {L l : List ByteArray} (hL : Asc L) (hm : ∀ x ∈ l, x ∈ L) (hn : L.length ≤ 65536) : (∀ x ∈ tplaces L l, 0 ≤ x ∧ x < 18446744073709551616) ∧ fitAll (tplaces L l) (wd L.length) := by
  constructor
  · intro x hx
    obtain ⟨y, hy, rfl⟩ := List.mem_map.1 hx
    obtain ⟨h1, _⟩ := pl_get hL (hm y hy)
    omega
  · intro x hx
    obtain ⟨y, hy, rfl⟩ := List.mem_map.1 hx
    obtain ⟨h1, _⟩ := pl_get hL (hm y hy)
    have h2 := bitlen_lt (Nat.le_refl (Lib.bitLen (L.length - 1))) (by omega)
    rw [Int.toNat_natCast]
    exact Nat.lt_of_le_of_lt (by omega) h2
theorem tplaces_ok {L l : List ByteArray} (hL : Asc L) (hm : ∀ x ∈ l, x ∈ L) (hn : L.length ≤ 65536) (hl : l.length ≤ 65536) : (packed (tplaces L l) (wd L.length)).2 = 0 ∧ (packed (tplaces L l) (wd L.length)).1.length ≤ 8 * l.length + 1 := by
  have oa : okSize ((tplaces L l).length : Int) ((wd L.length : Nat) : Int) := ⟨by omega, by rw [tplaces_len]; omega, by omega, by have := wd_64 L.length hn; omega⟩
  unfold packed
  rw [if_pos oa, Int.toNat_natCast, if_pos (tplaces_fit hL hm hn).2]
  refine ⟨rfl, ?_⟩
  show (digs _ _).length ≤ _
  rw [digs_length, tplaces_len]
  have : l.length * wd L.length ≤ l.length * 64 := Nat.mul_le_mul_left _ (wd_64 _ hn)
  unfold sizeN; omega
theorem nan_f (s : ByteArray) : cmp_isNaN_string.f s = some false := by unfold cmp_isNaN_string.f; simp
theorem cless_f (a b : ByteArray) : cmp_Less_string.f a b = some (decide (tb a < tb b)) := by
  unfold cmp_Less_string.f
  rw [nan_f, Option.bind_some, if_neg (by decide), less_eq]
theorem bs_l0 (X : List ByteArray) (s : ByteArray) (hA : Asc X) (hm : s ∈ X) (hX : X.length ≤ 1000000) :
    ∀ (d lo hi : Nat), hi - lo ≤ d → lo ≤ (pl s X).1 → (pl s X).1 ≤ hi → hi ≤ X.length → Ev (fun k => slices_BinarySearch_string_string.l0 k X s X.length lo hi) (((pl s X).1 : Int), true) := by
  obtain ⟨hi1, he⟩ := pl_get hA hm
  intro d
  induction d with
  | zero =>
    intro lo hi hd h1 h2 h3
    have e : lo = (pl s X).1 := by omega
    refine Ev.step (f := fun _ => some (((pl s X).1 : Int), true)) (fun k => ?_) (Ev.now _)
    simp only [slices_BinarySearch_string_string.l0]
    rw [if_neg (by omega), e, if_pos (Int.ofNat_lt.2 hi1), if_pos (Int.natCast_nonneg _), if_pos (Int.ofNat_lt.2 hi1), rdo_get hi1, he, if_pos rfl]
  | succ d ih =>
    intro lo hi hd h1 h2 h3
    by_cases c : lo < hi
    · have em : wrap64 ((IntKind.u64.wrap (wrap64 ((lo : Int) + (hi : Int)))) / 2) = (((lo + hi) / 2 : Nat) : Int) := by
        rw [w64 (n := (lo : Int) + hi) (by omega) (by omega), u64w_id (by omega) (by omega), w64 (by omega) (by omega)]; omega
      have hmid : (lo + hi) / 2 < X.length := by omega
      have hiff := pl_iff s X hA ((lo + hi) / 2) hmid
      by_cases c2 : tb X[(lo + hi) / 2] < tb s
      · have h4 := hiff.1 c2
        refine Ev.step (fun k => ?_) (ih ((lo + hi) / 2 + 1) hi (by omega) (by omega) h2 h3)
        simp only [slices_BinarySearch_string_string.l0]
        rw [if_pos (Int.ofNat_lt.2 c), em, if_pos (Int.natCast_nonneg _), if_pos (Int.ofNat_lt.2 hmid), rdo_get hmid, cless_f, decide_eq_true c2, Option.bind_some, if_pos rfl, nx (by omega)]
      · have h4 : ¬ (lo + hi) / 2 < (pl s X).1 := fun h => c2 (hiff.2 h)
        refine Ev.step (fun k => ?_) (ih lo ((lo + hi) / 2) (by omega) h1 (by omega) (by omega))
        simp only [slices_BinarySearch_string_string.l0]
        rw [if_pos (Int.ofNat_lt.2 c), em, if_pos (Int.natCast_nonneg _), if_pos (Int.ofNat_lt.2 hmid), rdo_get hmid, cless_f, decide_eq_false c2, Option.bind_some, if_neg (by decide)]
    · exact ih lo hi (by omega) h1 h2 h3
theorem bs_f (X : List ByteArray) (s : ByteArray) (hA : Asc X) (hm : s ∈ X) (hX : X.length ≤ 1000000) : Ev (fun k => slices_BinarySearch_string_string.f k X s) (((pl s X).1 : Int), true) := by
  unfold slices_BinarySearch_string_string.f
  obtain ⟨h, _⟩ := pl_get hA hm
  exact bs_l0 X s hA hm hX X.length 0 X.length (by omega) (Nat.zero_le _) (by omega) (Nat.le_refl _)
theorem u64w_nat {j n : Nat} (h : j < n) (hn : n ≤ 65536) : IntKind.u64.wrap (j : Int) = (j : Int) := u64w_id (by omega) (by omega)
theorem len_ok {n : Nat} (h : n ≤ 65536) : n < 17592186044416 := by omega
theorem tput_l1 (l L : List ByteArray) (b : List Int) (hL : Asc L) (hm : ∀ x ∈ l, x ∈ L) (hn : L.length ≤ 65536) (hl : l.length ≤ 65536) (hb : b.length ≤ 5000000000) :
    ∀ (d i : Nat), l.length = i + d → Ev (fun k => texts_Put.l1 k L b ((tplaces L l).take i) l l.length i) (b ++ [(wd L.length : Int)] ++ (packed (tplaces L l) (wd L.length)).1, 0) := by
  intro d
  induction d with
  | zero =>
    intro i hd
    obtain ⟨p1, p2⟩ := tplaces_ok hL hm hn hl
    have hw := wd_64 L.length hn
    rw [List.take_of_length_le (by rw [tplaces_len]; omega)]
    refine Ev.step (f := fun k => _) (fun k => by
      simp only [texts_Put.l1]
      rw [if_neg (by omega), texts_width_f _ hn, Option.bind_some]) ?_
    refine Ev.bind (pack_f (tplaces L l) _ (tplaces_fit hL hm hn).1) ?_
    have i1 : b.length < 140737488355328 := by omega
    have i2 : (b ++ [(wd L.length : Int)]).length + (packed (tplaces L l) ((wd L.length : Nat) : Int)).1.length < 140737488355328 := by rw [List.length_append, List.length_singleton]; omega
    have i3 : ((wd L.length : Nat) : Int) % 256 = (wd L.length : Int) := by omega
    simp only [i3, if_pos i1, Option.bind_some, if_pos i2, p1]
    exact Ev.now _
  | succ d ih =>
    intro i hd
    have hi : i < l.length := by omega
    have hx := hm _ (List.getElem_mem hi)
    obtain ⟨hp, _⟩ := pl_get hL hx
    have e : (tplaces L l).take (i + 1) = (tplaces L l).take i ++ [(((pl l[i] L).1 : Nat) : Int)] := by
      rw [List.take_succ_eq_append_getElem (by rw [tplaces_len]; exact hi)]
      congr 2
      simp [tplaces]
    have hn2 := ih (i + 1) (by omega)
    rw [e] at hn2
    have c : ((tplaces L l).take i).length < 17592186044416 := len_ok (by rw [List.length_take, tplaces_len]; omega)
    refine Ev.step (f := fun k => (slices_BinarySearch_string_string.f k L l[i]).bind fun bt => if ((tplaces L l).take i).length < 17592186044416 then texts_Put.l1 k L b ((tplaces L l).take i ++ [IntKind.u64.wrap bt.1]) l l.length ((i + 1 : Nat) : Int) else none) (fun k => by
      simp only [texts_Put.l1]
      rw [if_pos (Int.ofNat_lt.2 hi), if_pos (Int.natCast_nonneg _), if_pos (Int.ofNat_lt.2 hi), rdo_get hi, nx (by omega)]) ?_
    refine Ev.bind (bs_f L l[i] hL hx (by omega)) ?_
    simp only [if_pos c, u64w_nat hp hn]
    exact hn2
theorem tput_l0 (l L : List ByteArray) (hn : L.length ≤ 65536) (hs : ∀ s ∈ L, s.size ≤ 65536) (res : List Int × Int) :
    ∀ (d j : Nat) (b : List Int), L.length = j + d → b.length ≤ 10 + 70000 * j → Ev (fun k => texts_Put.l1 k L (b ++ blobs (L.drop j)) [] l l.length 0) res → Ev (fun k => texts_Put.l0 k l L b L L.length j) res := by
  intro d
  induction d with
  | zero =>
    intro j b hd hb h
    rw [List.drop_of_length_le (by omega), blobs, List.append_nil] at h
    refine Ev.step (fun k => ?_) h
    simp only [texts_Put.l0]
    rw [if_neg (by omega)]
  | succ d ih =>
    intro j b hd hb h
    have hj : j < L.length := by omega
    have hsz := hs _ (List.getElem_mem hj)
    have hbl := blob_len hsz
    rw [dropc L j hj, blobs, ← List.append_assoc] at h
    have hn2 := ih (j + 1) (b ++ blob L[j]) (by omega) (by rw [List.length_append]; omega) h
    refine Ev.step (f := fun k => (num_PutBlobS.f k b L[j]).bind fun t => texts_Put.l0 k l L t L L.length ((j + 1 : Nat) : Int)) (fun k => by
      simp only [texts_Put.l0]
      rw [if_pos (Int.ofNat_lt.2 hj), if_pos (Int.natCast_nonneg _), if_pos (Int.ofNat_lt.2 hj), rdo_get hj, nx (by omega)]) ?_
    exact Ev.bind (putblob_ev (by omega) hsz) hn2
theorem long_f {l : List ByteArray} (hs : ∀ s ∈ l, s.size ≤ 65536) : slices_ContainsFunc_string_string.f l = some false := by
  unfold slices_ContainsFunc_string_string.f
  congr 1
  rw [List.any_eq_false]
  intro x hx
  have := hs x hx
  unfold slices_IndexFunc_string_string.p
  simp; omega
theorem textput_f (l : List ByteArray) (hl : l.length ≤ 65536) (hs : ∀ s ∈ l, s.size ≤ 65536) : Ev (fun k => texts_Put.f k l) (textOf l, 0) := by
  unfold texts_Put.f textOf
  have c : ¬ (l.length : Int) > 65536 := by omega
  simp only [if_neg c]
  rw [long_f hs]
  refine Ev.bind (Ev.now _) ?_
  have hL := tl_asc l
  have hn : (tl l).length ≤ 65536 := Nat.le_trans (tl_len l) hl
  have hLs : ∀ x ∈ tl l, x.size ≤ 65536 := fun x hx => hs x ((tl_mem l x).1 hx)
  have hm : ∀ x ∈ l, x ∈ tl l := fun x hx => (tl_mem l x).2 hx
  have e0 : IntKind.u64.wrap ((tl l).length : Int) = ((tl l).length : Int) := u64w_id (by omega) (by omega)
  have hp0 := putvar_ev (b := []) (v := ((tl l).length : Int)) (by omega) (by omega) (by decide)
  rw [Int.toNat_natCast, List.nil_append] at hp0
  refine Ev.step (f := fun k => (some (tl l)).bind fun t => (num_PutVar.f k ([] : List Int) (IntKind.u64.wrap (t.length : Int))).bind fun b => texts_Put.l0 k l t b t (t.length : Int) 0) (fun k => by
    simp only [texts_Put.j0]
    rw [if_neg (by decide), tl_f (by omega)]) ?_
  refine Ev.bind (Ev.now _) ?_
  rw [e0]
  refine Ev.bind hp0 ?_
  have h10 := leb_length10 (v := (tl l).length) (by omega)
  have hbl := blobs_len (tl l) hLs
  have hend := tput_l1 l (tl l) (leb (tl l).length ++ blobs (tl l)) hL hm hn hl (by rw [List.length_append]; omega) l.length 0 (by omega)
  rw [List.take_zero] at hend
  exact tput_l0 l (tl l) hn hLs _ (tl l).length 0 _ (by omega) (by omega) hend
theorem tl_bab : tl [(⟨#[98]⟩ : ByteArray), ⟨#[97]⟩, ⟨#[98]⟩] = [⟨#[97]⟩, ⟨#[98]⟩] := tl_eq (List.pairwise_cons.2 ⟨fun z hz => by
  rw [List.mem_singleton.1 hz]; show ([97] : List UInt8) < [98]; decide, List.pairwise_singleton _ _⟩) (fun x => by
  simp only [List.mem_cons, List.not_mem_nil, or_false]
  exact ⟨fun h => h.elim (fun h => .inr (.inl h)) .inl, fun h => h.elim .inr (fun h => h.elim .inl .inr)⟩)
theorem textawake_eq : textOf [(⟨#[98]⟩ : ByteArray), ⟨#[97]⟩, ⟨#[98]⟩] = [2, 1, 97, 1, 98, 1, 5] := by
  have h3 : wd 2 = 1 := by decide
  have h4 : packed (tplaces [(⟨#[97]⟩ : ByteArray), ⟨#[98]⟩] [⟨#[98]⟩, ⟨#[97]⟩, ⟨#[98]⟩]) ((1 : Nat) : Int) = ([5], 0) := by decide
  have h5 : blobs [(⟨#[97]⟩ : ByteArray), ⟨#[98]⟩] = [1, 97, 1, 98] := by
    show (leb 1 ++ [97]) ++ ((leb 1 ++ [98]) ++ []) = _
    rw [leb_small (by decide)]; decide
  unfold textOf
  rw [tl_bab]
  show leb 2 ++ blobs [(⟨#[97]⟩ : ByteArray), ⟨#[98]⟩] ++ [((wd 2 : Nat) : Int)] ++ (packed (tplaces [(⟨#[97]⟩ : ByteArray), ⟨#[98]⟩] [⟨#[98]⟩, ⟨#[97]⟩, ⟨#[98]⟩]) ((wd 2 : Nat) : Int)).1 = _
  rw [h3, h4, h5, leb_small (by decide)]; decide
theorem textawake : Ev (fun k => estreatlaw13_awake.f k) true := by
  unfold estreatlaw13_awake.f
  refine Ev.bind (textput_f [(⟨#[98]⟩ : ByteArray), ⟨#[97]⟩, ⟨#[98]⟩] (by decide) (fun x hx => by
    simp only [List.mem_cons, List.not_mem_nil, or_false] at hx
    rcases hx with rfl | rfl | rfl <;> decide)) ?_
  rw [textawake_eq]
  refine Ev.bind (a := true) ⟨10, fun k hk => by
    have := same_f [2, 1, 97, 1, 98, 1, 5] [2, 1, 97, 1, 98, 1, 5] (by decide) k (by simp; omega)
    simpa using this⟩ ?_
  simp only [if_true]
  exact Ev.now _

/-! the law's own loops -/
theorem prv {i : Nat} (h : i < 9223372036854775807) : wrap64 (((i + 1 : Nat) : Int) - 1) = (i : Int) := by rw [w64 (by omega) (by omega)]; omega
theorem ord_rev (l X : List ByteArray) (res : Bool) (hl : l.length ≤ 1000000) (h : Ev (fun k => estreatlaw13_TextsOrder.l1 k l X l.reverse 1) res) :
    ∀ (n : Nat), n ≤ l.length → Ev (fun k => estreatlaw13_TextsOrder.l0 k l X (l.drop n).reverse (wrap64 ((n : Int) - 1))) res := by
  intro n
  induction n with
  | zero =>
    intro _
    refine Ev.step (fun k => ?_) h
    simp only [estreatlaw13_TextsOrder.l0]
    rw [if_neg (by unfold wrap64; omega)]
    rfl
  | succ n ih =>
    intro hn
    have hi : n < l.length := by omega
    have hn2 := ih (by omega)
    rw [dropc l n hi, List.reverse_cons] at hn2
    rw [prv (by omega)]
    refine Ev.step (fun k => ?_) hn2
    simp only [estreatlaw13_TextsOrder.l0]
    rw [if_pos (by omega), if_pos (Int.natCast_nonneg _), if_pos (Int.ofNat_lt.2 hi), rdo_get hi, if_pos (by rw [List.length_reverse, List.length_drop]; omega)]
theorem ord_rises (l X m : List ByteArray) (res : Bool) (hA : Asc X) (hX : X.length ≤ 1000000) (h : Ev (fun k => estreatlaw13_TextsOrder.l2 k l X m 0) res) :
    ∀ (d i : Nat), X.length ≤ i + 1 + d → Ev (fun k => estreatlaw13_TextsOrder.l1 k l X m ((i + 1 : Nat) : Int)) res := by
  intro d
  induction d with
  | zero =>
    intro i hd
    refine Ev.step (fun k => ?_) h
    simp only [estreatlaw13_TextsOrder.l1]
    rw [if_neg (by omega)]
  | succ d ih =>
    intro i hd
    by_cases c : i + 1 < X.length
    · have c0 : i < X.length := by omega
      have hlt : tb X[i] < tb X[i + 1] := asc_at hA c (by omega)
      refine Ev.step (fun k => ?_) (ih (i + 1) (by omega))
      simp only [estreatlaw13_TextsOrder.l1]
      rw [if_pos (Int.ofNat_lt.2 c), prv (by omega), if_pos (Int.natCast_nonneg _), if_pos (Int.ofNat_lt.2 c0), if_pos (Int.natCast_nonneg _), rdo_get c0, rdo_get c, less_eq, decide_eq_true hlt, if_pos rfl, nx (by omega)]
    · refine Ev.step (fun k => ?_) h
      simp only [estreatlaw13_TextsOrder.l1]
      rw [if_neg (by omega)]
theorem ord_all (l X m : List ByteArray) (res : Bool) (hA : Asc X) (hm : ∀ x ∈ l, x ∈ X) (hX : X.length ≤ 1000000) (hl : l.length ≤ 1000000) (h : Ev (fun k => estreatlaw13_TextsOrder.l3 k l X m 0) res) :
    ∀ (d i : Nat), l.length = i + d → Ev (fun k => estreatlaw13_TextsOrder.l2 k l X m i) res := by
  intro d
  induction d with
  | zero =>
    intro i hd
    refine Ev.step (fun k => ?_) h
    simp only [estreatlaw13_TextsOrder.l2]
    rw [if_neg (by omega)]
  | succ d ih =>
    intro i hd
    have hi : i < l.length := by omega
    have hx := hm _ (List.getElem_mem hi)
    have hn := ih (i + 1) (by omega)
    have hp := (pl_mem l[i] X hA).2 hx
    refine Ev.step (f := fun k => (estreatref13_Place.f k X l[i]).bind fun bt => if bt.2 = true then estreatlaw13_TextsOrder.l2 k l X m ((i + 1 : Nat) : Int) else some false) (fun k => by
      simp only [estreatlaw13_TextsOrder.l2]
      rw [if_pos (Int.ofNat_lt.2 hi), if_pos (Int.natCast_nonneg _), rdo_get hi, nx (by omega)]) ?_
    refine Ev.bind (place_f X l[i] hX) ?_
    simp only [if_pos hp]
    exact hn
theorem ord_there (l X m : List ByteArray) (res : Bool) (hl : l.length ≤ 1000000) (hX : X.length ≤ 1000000) (i : Nat) (hi : i < X.length) (h : Ev (fun k => estreatlaw13_TextsOrder.l3 k l X m ((i + 1 : Nat) : Int)) res) :
    ∀ (d j : Nat) (t : Bool), l.length = j + d → (t = true ∨ X[i] ∈ l.drop j) → Ev (fun k => estreatlaw13_TextsOrder.l4 k l X m i t j) res := by
  intro d
  induction d with
  | zero =>
    intro j t hd ht
    have : t = true := ht.resolve_right (by rw [List.drop_of_length_le (by omega)]; simp)
    subst this
    refine Ev.step (fun k => ?_) h
    simp only [estreatlaw13_TextsOrder.l4]
    rw [if_neg (by omega), if_pos trivial, nx (by omega)]
  | succ d ih =>
    intro j t hd ht
    have hj : j < l.length := by omega
    cases t with
    | true =>
      refine Ev.step (fun k => ?_) (ih (j + 1) true (by omega) (.inl rfl))
      simp only [estreatlaw13_TextsOrder.l4]
      rw [if_pos (Int.ofNat_lt.2 hj), if_pos trivial, nx (by omega)]
    | false =>
      have hmem := ht.resolve_left (by decide)
      rw [dropc l j hj] at hmem
      refine Ev.step (fun k => ?_) (ih (j + 1) (l[j].toList == X[i].toList) (by omega) ?_)
      · simp only [estreatlaw13_TextsOrder.l4]
        rw [if_pos (Int.ofNat_lt.2 hj), if_neg (by decide), if_pos (Int.natCast_nonneg _), if_pos (Int.natCast_nonneg _), if_pos (Int.ofNat_lt.2 hi), rdo_get hj, rdo_get hi, nx (by omega)]
      · rcases List.mem_cons.1 hmem with e | e
        · exact .inl (by rw [e]; simp)
        · exact .inr e
theorem ord_none (l X m : List ByteArray) (res : Bool) (hm : ∀ x ∈ X, x ∈ l) (hl : l.length ≤ 1000000) (hX : X.length ≤ 1000000)
    (h : Ev (fun k => (texts_List.f m).bind fun t190 => (estreatref13_Same.f k t190 X).bind fun t193 => if t193 = true then (estreatlaw13_awake.f k).bind fun t194 => some t194 else some false) res) :
    ∀ (d i : Nat), X.length = i + d → Ev (fun k => estreatlaw13_TextsOrder.l3 k l X m i) res := by
  intro d
  induction d with
  | zero =>
    intro i hd
    refine Ev.step (fun k => ?_) h
    simp only [estreatlaw13_TextsOrder.l3]
    rw [if_neg (by omega)]
  | succ d ih =>
    intro i hd
    have hi : i < X.length := by omega
    have h4 := ord_there l X m res hl hX i hi (ih (i + 1) (by omega)) l.length 0 false (by omega) (.inr (hm _ (List.getElem_mem hi)))
    refine Ev.step (fun k => ?_) h4
    simp only [estreatlaw13_TextsOrder.l3]
    rw [if_pos (Int.ofNat_lt.2 hi)]
    rfl
theorem TextsOrder : estreatlaw13_TextsOrder.Pure := by
  intro l hm _
  refine Ev.rounds ?_
  unfold estreatlaw13_TextsOrder.f
  obtain ⟨g, hg, hgf⟩ := great_f l 60 60 hm (by decide)
  refine Ev.bind hg ?_
  cases g
  · obtain ⟨h1, _⟩ := hgf rfl
    simp only [Bool.false_eq_true, if_false]
    rw [tl_f (by omega)]
    refine Ev.bind (Ev.now _) ?_
    have hn := tl_len l
    have hrev : tl l.reverse = tl l := tl_eq (tl_asc l) (fun x => by rw [tl_mem, List.mem_reverse])
    have hend : Ev (fun k => (texts_List.f l.reverse).bind fun t190 => (estreatref13_Same.f k t190 (tl l)).bind fun t193 => if t193 = true then (estreatlaw13_awake.f k).bind fun t194 => some t194 else some false) true := by
      rw [tl_f (by rw [List.length_reverse]; omega), hrev]
      refine Ev.bind (Ev.now _) ?_
      refine Ev.bind (tsame_f _ _ (by omega)) ?_
      simp only [decide_true, if_true]
      exact Ev.bind textawake (Ev.now _)
    have h3 := ord_none l (tl l) l.reverse true (fun x hx => (tl_mem l x).1 hx) (by omega) (by omega) hend (tl l).length 0 (by omega)
    have h2 := ord_all l (tl l) l.reverse true (tl_asc l) (fun x hx => (tl_mem l x).2 hx) (by omega) (by omega) h3 l.length 0 (by omega)
    have h1 := ord_rises l (tl l) l.reverse true (tl_asc l) (by omega) h2 (tl l).length 0 (by omega)
    have h0 := ord_rev l (tl l) true (by omega) h1 l.length (Nat.le_refl _)
    rw [List.drop_length] at h0
    exact h0
  · simp only [if_true]
    exact Ev.bind textawake (Ev.now _)

end Go.Proofs.Ytieddojplhmhgaa.Pure
