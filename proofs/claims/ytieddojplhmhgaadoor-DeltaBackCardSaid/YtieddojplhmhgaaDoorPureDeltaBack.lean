/- What estreatlaw10.DeltaBack computes is true for any numbers, bytes and count. -/
import Derived.Test.YtieddojplhmhgaaDoorPDeltaBackx7
import Derived.Lib.Zigzag
import Derived.Lib.BitFns
namespace Go.Proofs.YtieddojplhmhgaaDoor.Pure
open Go.RowKit Go.Proofs.YtieddojplhmhgaaDoor.PDeltaBack Go.Proofs.YtieddojplhmhgaaDoorW.PrintWords Go.Proofs.YtieddojplhmhgaaDoorW.PrintLast Go.Proofs.YtieddojplhmhgaaDoorW.PrintMore

/-! words of this session: plain facts on numbers and lists -/
theorem w64 {n : Int} (h0 : -9223372036854775808 ≤ n) (h1 : n ≤ 9223372036854775807) : wrap64 n = n := by unfold wrap64; omega
theorem u64w (n : Int) : IntKind.u64.wrap n = n % 18446744073709551616 := by simp [IntKind.wrap, IntKind.bits, IntKind.signed]
theorem u64w_id {n : Int} (h0 : 0 ≤ n) (h1 : n < 18446744073709551616) : IntKind.u64.wrap n = n := by rw [u64w]; omega
theorem rd_nat (xs : List Int) (i : Nat) : rd xs (i : Int) = xs.getD i 0 := by simp [rd]
theorem rd_get {xs : List Int} {i : Nat} (h : i < xs.length) : rd xs (i : Int) = xs[i] := by simp [rd, h]
theorem wf_i64 {x : Int} (h : (Lit.int .i64 x).wf = true) : -9223372036854775808 ≤ x ∧ x ≤ 9223372036854775807 := by
  simp [Lit.wf, IntKind.min, IntKind.max, IntKind.signed, IntKind.bits] at h; omega
theorem wf_u64 {x : Int} (h : (Lit.int .u64 x).wf = true) : 0 ≤ x ∧ x < 18446744073709551616 := by
  simp [Lit.wf, IntKind.min, IntKind.max, IntKind.signed, IntKind.bits] at h; omega
theorem wf_u8 {x : Int} (h : (Lit.int .u8 x).wf = true) : 0 ≤ x ∧ x < 256 := by
  simp [Lit.wf, IntKind.min, IntKind.max, IntKind.signed, IntKind.bits] at h; omega
theorem dropc {α : Type} (l : List α) (i : Nat) (h : i < l.length) : l.drop i = l[i] :: l.drop (i + 1) := List.drop_eq_getElem_cons h

/-! estreatref01.Same: are two lists one? -/
theorem same_l0 (xs ys : List Int) (hl : xs.length = ys.length) (hb : xs.length < 9223372036854775807) : ∀ (d k i : Nat), xs.length = i + d → d < k → estreatref01_Same.l0 k xs ys i = some (decide (xs.drop i = ys.drop i)) := by
  intro d
  induction d with
  | zero =>
    intro k i hd hk
    obtain ⟨k, rfl⟩ : ∃ m, k = m + 1 := ⟨k - 1, by omega⟩
    simp only [estreatref01_Same.l0]; rw [if_neg (by omega), List.drop_of_length_le (by omega), List.drop_of_length_le (by omega)]; simp
  | succ d ih =>
    intro k i hd hk
    obtain ⟨k, rfl⟩ : ∃ m, k = m + 1 := ⟨k - 1, by omega⟩
    simp only [estreatref01_Same.l0]
    have := ih k (i + 1) (by omega) (by omega)
    simp only [Int.natCast_add, Int.natCast_one] at this
    rw [if_pos (by omega), if_pos (by omega), if_pos (by omega), rd_get (by omega), rd_get (by omega), w64 (by omega) (by omega), this]
    have ex : xs.drop i = xs[i] :: xs.drop (i + 1) := List.drop_eq_getElem_cons (by omega)
    have ey : ys.drop i = ys[i] :: ys.drop (i + 1) := List.drop_eq_getElem_cons (by omega)
    rw [ex, ey]
    by_cases h : xs[i] = ys[i]
    · rw [if_pos h, h]; simp only [List.cons.injEq, true_and]
    · rw [if_neg h, decide_eq_false]; simp only [List.cons.injEq, h, false_and, not_false_eq_true]
theorem same_f (xs ys : List Int) (hb : xs.length < 9223372036854775807) : ∀ k, xs.length < k → estreatref01_Same.f k xs ys = some (decide (xs = ys)) := by
  intro k hk
  unfold estreatref01_Same.f
  by_cases h : xs.length = ys.length
  · rw [if_pos (by omega)]
    have := same_l0 xs ys h hb xs.length k 0 (by omega) hk
    simpa using this
  · rw [if_neg (by omega)]
    have : xs ≠ ys := fun e => h (by rw [e])
    simp [this]

/-! the short number of a number, and what puts it -/
def leb (v : Nat) : List Int := if h : v < 128 then [(v : Int)] else ((v % 128 + 128 : Nat) : Int) :: leb (v / 128)
theorem leb_small {v : Nat} (h : v < 128) : leb v = [(v : Int)] := by rw [leb, dif_pos h]
theorem leb_big {v : Nat} (h : ¬ v < 128) : leb v = ((v % 128 + 128 : Nat) : Int) :: leb (v / 128) := by rw [leb, dif_neg h]
theorem leb_length : ∀ (n v : Nat), v < 128 ^ (n + 1) → (leb v).length ≤ n + 1 := by
  intro n
  induction n with
  | zero => intro v h; rw [leb_small (by simpa using h)]; simp
  | succ n ih =>
    intro v h
    by_cases hv : v < 128
    · rw [leb_small hv]; simp
    · rw [leb_big hv, List.length_cons]
      have := ih (v / 128) (by rw [Nat.div_lt_iff_lt_mul (by decide)]; rw [Nat.pow_succ] at h; omega)
      omega
theorem p128 : (18446744073709551616 : Nat) < 128 ^ (9 + 1) := by decide
theorem leb_length10 {v : Nat} (h : v < 18446744073709551616) : (leb v).length ≤ 10 := leb_length 9 v (Nat.lt_trans h p128)

theorem putvar_l0 : ∀ (n k v : Nat) (b : List Int), v < 128 ^ (n + 1) → n < k → b.length + n < 140737488355328 → num_PutVar.l0 k b v = some (b ++ leb v) := by
  intro n
  induction n with
  | zero =>
    intro k v b hv hk hb
    obtain ⟨k, rfl⟩ : ∃ m, k = m + 1 := ⟨k - 1, by omega⟩
    simp only [num_PutVar.l0]
    rw [if_neg (by omega), if_pos (by omega), leb_small (by omega)]
    rw [Int.emod_eq_of_lt (by omega) (by omega)]
  | succ n ih =>
    intro k v b hv hk hb
    obtain ⟨k, rfl⟩ : ∃ m, k = m + 1 := ⟨k - 1, by omega⟩
    simp only [num_PutVar.l0]
    by_cases h : v < 128
    · rw [if_neg (by omega), if_pos (by omega), leb_small h, Int.emod_eq_of_lt (by omega) (by omega)]
    · rw [if_pos (by omega), if_pos (by omega), Lib.u8_or128_any _ (by omega) (by omega), leb_big h]
      have e : (v : Int) / 128 = ((v / 128 : Nat) : Int) := by omega
      rw [e, ih k (v / 128) _ (by rw [Nat.div_lt_iff_lt_mul (by decide)]; rw [Nat.pow_succ] at hv; omega) (by omega) (by simp; omega)]
      have e2 : (v : Int) % 256 % 128 + 128 = ((v % 128 + 128 : Nat) : Int) := by omega
      rw [e2]; simp
theorem putvar_f {v : Int} {b : List Int} {k : Nat} (h0 : 0 ≤ v) (h1 : v < 18446744073709551616) (hk : 10 ≤ k) (hb : b.length < 140737488000000) : num_PutVar.f k b v = some (b ++ leb v.toNat) := by
  obtain ⟨n, rfl⟩ := Int.eq_ofNat_of_zero_le h0
  unfold num_PutVar.f
  exact putvar_l0 9 k n b (Nat.lt_trans (by omega) p128) (by omega) (by omega)

/-! num.Zig -/
def zz (x : Int) : Int := if 0 ≤ x then 2 * x else -2 * x - 1
theorem zz_range {x : Int} (h0 : -9223372036854775808 ≤ x) (h1 : x ≤ 9223372036854775807) : 0 ≤ zz x ∧ zz x < 18446744073709551616 := by
  unfold zz; split <;> omega
theorem zig_f {x : Int} (h0 : -9223372036854775808 ≤ x) (h1 : x ≤ 9223372036854775807) : num_Zig.f x = some (zz x) := by
  unfold num_Zig.f zz
  by_cases h : 0 ≤ x
  · rw [if_pos h]
    have e1 : IntKind.u64.wrap (IntKind.u64.wrap x * 2) = (((2 * x).toNat : Nat) : Int) := by rw [u64w, u64w]; omega
    have e2 : IntKind.u64.wrap (x / 9223372036854775808) = ((0 : Nat) : Int) := by rw [u64w]; omega
    rw [e1, e2, bits_xor_u64_nat _ _ (by omega) (by omega), Nat.xor_zero]
    congr 1; omega
  · rw [if_neg h]
    have e1 : IntKind.u64.wrap (IntKind.u64.wrap x * 2) = (((2 * x + 18446744073709551616).toNat : Nat) : Int) := by rw [u64w, u64w]; omega
    have e2 : IntKind.u64.wrap (x / 9223372036854775808) = ((2 ^ 64 - 1 : Nat) : Int) := by rw [u64w]; omega
    rw [e1, e2, bits_xor_u64_nat _ _ (by omega) (by decide), Nat.xor_comm, Lib.xor_ones64 _ (by omega)]
    congr 1; omega

/-! bytes as one number, and back -/
def leN : List Int → Nat
  | [] => 0
  | x :: xs => x.toNat + 256 * leN xs
def digs : Nat → Nat → List Int
  | 0, _ => []
  | s + 1, N => ((N % 256 : Nat) : Int) :: digs s (N / 256)
def Bytes (xs : List Int) : Prop := ∀ x ∈ xs, 0 ≤ x ∧ x < 256
theorem digs_length : ∀ s N, (digs s N).length = s := by
  intro s; induction s with
  | zero => intro N; rfl
  | succ s ih => intro N; simp [digs, ih]
theorem digs_leN : ∀ (xs : List Int), Bytes xs → digs xs.length (leN xs) = xs := by
  intro xs; induction xs with
  | nil => intro _; rfl
  | cons x xs ih =>
    intro h
    have hx := h x (by simp)
    have := ih (fun y hy => h y (by simp [hy]))
    simp only [List.length_cons, digs, leN]
    have e1 : (x.toNat + 256 * leN xs) % 256 = x.toNat := by omega
    have e2 : (x.toNat + 256 * leN xs) / 256 = leN xs := by omega
    rw [e1, e2, this, Int.toNat_of_nonneg hx.1]
theorem leN_digs : ∀ s N, N < 256 ^ s → leN (digs s N) = N := by
  intro s; induction s with
  | zero => intro N h; simp at h; simp [digs, leN, h]
  | succ s ih =>
    intro N h
    simp only [digs, leN]
    rw [ih (N / 256) (by rw [Nat.div_lt_iff_lt_mul (by decide)]; rw [Nat.pow_succ] at h; exact h)]
    omega
theorem digs_bytes : ∀ s N, Bytes (digs s N) := by
  intro s; induction s with
  | zero => intro N x hx; simp [digs] at hx
  | succ s ih =>
    intro N x hx
    simp only [digs, List.mem_cons] at hx
    rcases hx with rfl | hx
    · omega
    · exact ih _ x hx
theorem leN_set : ∀ (xs : List Int) (q : Nat) (v d : Int) (h : q < xs.length), 0 ≤ xs[q] → 0 ≤ d → v = xs[q] + d → leN (xs.set q v) = leN xs + 256 ^ q * d.toNat := by
  intro xs; induction xs with
  | nil => intro q v d h; simp at h
  | cons x xs ih =>
    intro q v d h h0 hd hv
    cases q with
    | zero =>
      simp only [List.getElem_cons_zero] at h0 hv
      simp only [List.set_cons_zero, leN, Nat.pow_zero, Nat.one_mul]; omega
    | succ q =>
      simp only [List.getElem_cons_succ] at h0 hv
      have := ih q v d (by simpa using h) h0 hd hv
      simp only [List.set_cons_succ, leN, this, Nat.pow_succ, Nat.mul_add]
      have : 256 * (256 ^ q * d.toNat) = 256 ^ q * 256 * d.toNat := by rw [Nat.mul_comm (256 ^ q) 256, Nat.mul_assoc]
      omega
theorem leN_lt : ∀ (xs : List Int), Bytes xs → leN xs < 256 ^ xs.length := by
  intro xs; induction xs with
  | nil => intro _; simp [leN]
  | cons x xs ih =>
    intro h
    have hx := h x (by simp)
    have := ih (fun y hy => h y (by simp [hy]))
    simp only [leN, List.length_cons, Nat.pow_succ]; omega
theorem leN_at : ∀ (xs : List Int) (q : Nat) (h : q < xs.length), Bytes xs → (xs[q]).toNat = leN xs / 256 ^ q % 256 := by
  intro xs; induction xs with
  | nil => intro q h; simp at h
  | cons x xs ih =>
    intro q h hb
    have hx := hb x (by simp)
    cases q with
    | zero => simp only [List.getElem_cons_zero, leN, Nat.pow_zero, Nat.div_one]; omega
    | succ q =>
      have := ih q (by simpa using h) (fun y hy => hb y (by simp [hy]))
      simp only [List.getElem_cons_succ, leN, this, Nat.pow_succ]
      rw [Nat.mul_comm (256 ^ q) 256, ← Nat.div_div_eq_div_mul]
      have e : (x.toNat + 256 * leN xs) / 256 = leN xs := by omega
      rw [e]
theorem leN_zeros : ∀ n, leN (List.replicate n 0) = 0 := by
  intro n; induction n with
  | zero => rfl
  | succ n ih => simp [List.replicate_succ, leN, ih]
/-- numbers of w bits each as one number -/
def numN (w : Nat) : List Int → Nat
  | [] => 0
  | x :: xs => x.toNat + 2 ^ w * numN w xs
theorem numN_append (w : Nat) : ∀ (xs ys : List Int), numN w (xs ++ ys) = numN w xs + 2 ^ (w * xs.length) * numN w ys := by
  intro xs; induction xs with
  | nil => intro ys; simp [numN]
  | cons x xs ih =>
    intro ys
    simp only [List.cons_append, numN, ih, List.length_cons, Nat.mul_add, Nat.mul_one, Nat.pow_add]
    have : 2 ^ w * (2 ^ (w * xs.length) * numN w ys) = 2 ^ (w * xs.length) * 2 ^ w * numN w ys := by rw [Nat.mul_comm (2 ^ (w * xs.length)) (2 ^ w), Nat.mul_assoc]
    omega
theorem numN_lt (w : Nat) : ∀ (xs : List Int), (∀ x ∈ xs, x.toNat < 2 ^ w) → numN w xs < 2 ^ (w * xs.length) := by
  intro xs; induction xs with
  | nil => intro _; simp [numN]
  | cons x xs ih =>
    intro h
    have hx := h x (by simp)
    have := ih (fun y hy => h y (by simp [hy]))
    simp only [numN, List.length_cons, Nat.mul_add, Nat.mul_one, Nat.pow_add]
    have : 2 ^ w * (numN w xs + 1) ≤ 2 ^ w * 2 ^ (w * xs.length) := Nat.mul_le_mul_left _ (by omega)
    rw [Nat.mul_add, Nat.mul_one, Nat.mul_comm (2 ^ w) (2 ^ (w * xs.length))] at this
    omega

/-! bits.Size, fits, Pack -/
def sizeN (n w : Nat) : Nat := (n * w + 7) / 8
def okSize (n w : Int) : Prop := 0 ≤ n ∧ n ≤ 65536 ∧ 0 ≤ w ∧ w ≤ 64
instance (n w : Int) : Decidable (okSize n w) := inferInstanceAs (Decidable (_ ∧ _))
theorem mul_le_64 {n w : Int} (h : okSize n w) : 0 ≤ n * w ∧ n * w ≤ 65536 * 64 :=
  ⟨Int.mul_nonneg h.1 h.2.2.1, Int.le_trans (Int.mul_le_mul_of_nonneg_right h.2.1 h.2.2.1) (Int.mul_le_mul_of_nonneg_left h.2.2.2 (by decide))⟩
theorem size_f (n w : Int) : bits_Size.f n w = some (if okSize n w then ((sizeN n.toNat w.toNat : Nat) : Int) else -1) := by
  unfold bits_Size.f
  by_cases h : okSize n w
  · have hm := mul_le_64 h
    have hh := h
    obtain ⟨h1, h2, h3, h4⟩ := hh
    rw [if_neg (by omega), if_neg (by omega), if_neg (by omega), if_neg (by omega), if_pos h, w64 (n := n * w) (by omega) (by omega), w64 (n := n * w + 7) (by omega) (by omega), Int.tdiv_eq_ediv_of_nonneg (by omega), w64 (by omega) (by omega)]
    have e : n * w = ((n.toNat * w.toNat : Nat) : Int) := by
      rw [Int.natCast_mul, Int.toNat_of_nonneg h1, Int.toNat_of_nonneg h3]
    unfold sizeN; rw [e]; congr 1
  · rw [if_neg h]
    unfold okSize at h
    by_cases c1 : n < 0
    · rw [if_pos c1]
    rw [if_neg c1]
    by_cases c2 : n > 65536
    · rw [if_pos c2]
    rw [if_neg c2]
    by_cases c3 : w < 0
    · rw [if_pos c3]
    rw [if_neg c3]
    by_cases c4 : w > 64
    · rw [if_pos c4]
    exact absurd ⟨by omega, by omega, by omega, by omega⟩ h
theorem shr64 {x : Int} {n : Nat} (h0 : 0 ≤ x) (h1 : x < 18446744073709551616) : shr .u64 x n = ((x.toNat / 2 ^ n : Nat) : Int) := by
  obtain ⟨a, rfl⟩ := Int.eq_ofNat_of_zero_le h0
  have ha : a < 2 ^ 64 := by omega
  unfold shr
  have hb : IntKind.u64.bits = 64 := rfl
  rw [hb]
  show (a : Int) / 2 ^ min (n : Int).toNat 64 = _
  rw [Int.toNat_natCast]
  by_cases h : n ≤ 64
  · rw [Nat.min_eq_left h]; simp
  · rw [Nat.min_eq_right (by omega)]
    have h64 : (2 : Nat) ^ 64 ≤ 2 ^ n := Nat.pow_le_pow_right (by decide) (by omega)
    have e1 : a / 2 ^ n = 0 := Nat.div_eq_of_lt (by omega)
    have e2 : a / 2 ^ 64 = 0 := Nat.div_eq_of_lt ha
    have : ((a / 2 ^ 64 : Nat) : Int) = (a : Int) / 2 ^ 64 := by simp
    rw [Int.toNat_natCast, e1, ← this, e2]
theorem fits_f {v w : Int} (h0 : 0 ≤ v) (h1 : v < 18446744073709551616) (hw0 : 0 ≤ w) (hw : w ≤ 64) : bits_fits.f v w = some (decide (v.toNat < 2 ^ w.toNat)) := by
  obtain ⟨n, rfl⟩ := Int.eq_ofNat_of_zero_le hw0
  unfold bits_fits.f
  by_cases c : (n : Int) = 64
  · rw [if_pos c]
    have : n = 64 := by omega
    subst this
    rw [decide_eq_true]; simp; omega
  · rw [if_neg c, u64w_id (by omega) (by omega), if_pos (by omega), shr64 h0 h1]
    congr 1
    rw [Int.toNat_natCast, Bool.eq_iff_iff]
    simp only [beq_iff_eq, decide_eq_true_eq]
    constructor
    · intro h
      have h2 : v.toNat / 2 ^ n = 0 := by omega
      rcases Nat.div_eq_zero_iff.1 h2 with h3 | h3
      · exact absurd h3 (Nat.ne_of_gt (Nat.two_pow_pos n))
      · exact h3
    · intro h
      rw [Nat.div_eq_of_lt h]; rfl
theorem pow8 (q r : Nat) : 2 ^ (8 * q + r) = 256 ^ q * 2 ^ r := by rw [Nat.pow_add, Nat.pow_mul]
theorem pack_step (S v q r take : Nat) (hr : r < 8) (ht : take ≤ 8 - r) (hc : take = 8 - r ∨ v < 2 ^ take) :
    S + 256 ^ q * (v * 2 ^ r % 256) + (v / 2 ^ take) * 2 ^ (8 * q + r + take) = S + v * 2 ^ (8 * q + r) := by
  rw [show 8 * q + r + take = 8 * q + (r + take) by omega, pow8, pow8]
  have key : v * 2 ^ r % 256 + (v / 2 ^ take) * 2 ^ (r + take) = v * 2 ^ r := by
    rcases hc with h | h
    · subst h
      have e : r + (8 - r) = 8 := by omega
      rw [e]
      have e2 : v * 2 ^ r / 256 = v / 2 ^ (8 - r) := by
        have : (256 : Nat) = 2 ^ (8 - r) * 2 ^ r := by rw [← Nat.pow_add, show 8 - r + r = 8 by omega]
        rw [this, Nat.mul_div_mul_right _ _ (Nat.two_pow_pos r)]
      rw [← e2]
      have := Nat.mod_add_div (v * 2 ^ r) 256
      omega
    · have e : v / 2 ^ take = 0 := Nat.div_eq_of_lt h
      rw [e, Nat.zero_mul, Nat.add_zero]
      apply Nat.mod_eq_of_lt
      have h1 : v * 2 ^ r < 2 ^ take * 2 ^ r := Nat.mul_lt_mul_of_pos_right h (Nat.two_pow_pos r)
      rw [← Nat.pow_add] at h1
      have h2 : 2 ^ (take + r) ≤ 2 ^ 8 := Nat.pow_le_pow_right (by decide) (by omega)
      omega
  have : (v / 2 ^ take) * (256 ^ q * 2 ^ (r + take)) = 256 ^ q * ((v / 2 ^ take) * 2 ^ (r + take)) := by rw [← Nat.mul_assoc, Nat.mul_comm (v / 2 ^ take), Nat.mul_assoc]
  rw [this, Nat.add_assoc, ← Nat.mul_add, key, ← Nat.mul_assoc, Nat.mul_comm (256 ^ q) v, Nat.mul_assoc]
theorem or_u8 {a b : Int} {r : Nat} (hr : r < 8) (ha0 : 0 ≤ a) (ha : a.toNat < 2 ^ r) (hb0 : 0 ≤ b) (hb : b < 256) (hd : b.toNat % 2 ^ r = 0) : bits .or .u8 a b = a + b := by
  obtain ⟨m, rfl⟩ := Int.eq_ofNat_of_zero_le ha0
  obtain ⟨n, rfl⟩ := Int.eq_ofNat_of_zero_le hb0
  simp only [Int.toNat_natCast] at ha hd
  have h8 : 2 ^ r ≤ 2 ^ 8 := Nat.pow_le_pow_right (by decide) (by omega)
  rw [(bits_nat .u8 8 (by decide) wraps_u8 m n (by omega) (by omega)).2, Nat.or_comm]
  have hq : n = 2 ^ r * (n / 2 ^ r) := by have := Nat.div_add_mod n (2 ^ r); omega
  rw [hq, ← Nat.two_pow_add_eq_or_of_lt ha (n / 2 ^ r), Int.natCast_add]; omega
theorem shl8 {x : Int} {r : Nat} (h0 : 0 ≤ x) (hr : r < 8) : shl .u8 (x % 256) r = ((x.toNat * 2 ^ r % 256 : Nat) : Int) := by
  obtain ⟨a, rfl⟩ := Int.eq_ofNat_of_zero_le h0
  unfold shl
  have hb : IntKind.u8.bits = 8 := rfl
  rw [hb, Int.toNat_natCast, Nat.min_eq_left (by omega), IntKind.wrap_u8]
  rw [Int.toNat_natCast, Int.mul_emod, Int.emod_emod, ← Int.mul_emod]; simp

theorem pack_byte (out : List Int) (q r v take : Nat) (hr : r < 8) (hqlen : q < out.length) (hb : Bytes out) (hN : leN out < 2 ^ (8 * q + r)) (hcase : take = 8 - r ∨ v < 2 ^ take) :
    ∃ d : Nat, d = v * 2 ^ r % 256 ∧ bits .or .u8 (out[q]) ((d : Nat) : Int) = out[q] + (d : Int) ∧ Bytes (out.set q (out[q] + (d : Int))) ∧ leN (out.set q (out[q] + (d : Int))) = leN out + 256 ^ q * d ∧ leN (out.set q (out[q] + (d : Int))) < 2 ^ (8 * q + r + take) := by
      have hbq := hb out[q] (List.getElem_mem hqlen)
      -- the byte that is turned
      have hat := leN_at out q hqlen hb
      have hsmall : (out[q]).toNat < 2 ^ r := by
        rw [hat]
        have : leN out / 256 ^ q < 2 ^ r := by
          rw [Nat.div_lt_iff_lt_mul (Nat.pow_pos (by decide)), Nat.mul_comm, ← pow8]; exact hN
        exact Nat.lt_of_le_of_lt (Nat.mod_le _ _) this
      have hd0 : v * 2 ^ r % 256 % 2 ^ r = 0 := by
        have : (256 : Nat) = 2 ^ r * 2 ^ (8 - r) := by rw [← Nat.pow_add, show r + (8 - r) = 8 by omega]
        rw [this, Nat.mod_mul_right_mod, Nat.mul_mod_left]
      obtain ⟨d, hd⟩ : ∃ d : Nat, d = v * 2 ^ r % 256 := ⟨_, rfl⟩
      have hd256 : d < 256 := by rw [hd]; exact Nat.mod_lt _ (by decide)
      have hor : bits .or .u8 (out[q]) ((d : Nat) : Int) = out[q] + (d : Int) := by
        refine or_u8 hr hbq.1 hsmall (by omega) (by omega) ?_
        rw [Int.toNat_natCast, hd]; exact hd0
      have hsum : out[q] + (d : Int) < 256 := by
        have h1 : (out[q]).toNat < 2 ^ r := hsmall
        have h2 : d = 2 ^ r * (d / 2 ^ r) := by have := Nat.div_add_mod d (2 ^ r); rw [← hd] at hd0; omega
        have h3 : d / 2 ^ r < 2 ^ (8 - r) := by
          rw [Nat.div_lt_iff_lt_mul (Nat.two_pow_pos r), ← Nat.pow_add, show 8 - r + r = 8 by omega]; exact hd256
        have h4 : 2 ^ r * (d / 2 ^ r + 1) ≤ 2 ^ r * 2 ^ (8 - r) := Nat.mul_le_mul_left _ h3
        rw [← Nat.pow_add, show r + (8 - r) = 8 by omega, Nat.mul_add, Nat.mul_one, ← h2] at h4
        omega
      have hset : leN (out.set q (out[q] + (d : Int))) = leN out + 256 ^ q * d := by
        have := leN_set out q (out[q] + (d : Int)) (d : Int) hqlen hbq.1 (by omega) rfl
        rw [Int.toNat_natCast] at this; exact this
      have hbytes : Bytes (out.set q (out[q] + (d : Int))) := by
        intro x hx
        rcases List.mem_or_eq_of_mem_set hx with h | h
        · exact hb x h
        · omega
      have hNew : leN (out.set q (out[q] + (d : Int))) < 2 ^ (8 * q + r + take) := by
        rw [hset, show 8 * q + r + take = 8 * q + (r + take) by omega, pow8]
        have h1 : leN out < 256 ^ q * 2 ^ r := by rw [← pow8]; exact hN
        have h2 : d + 2 ^ r ≤ 2 ^ (r + take) := by
          have g2 : d = 2 ^ r * (d / 2 ^ r) := by have := Nat.div_add_mod d (2 ^ r); rw [← hd] at hd0; omega
          have g3 : d / 2 ^ r < 2 ^ take := by
            rcases hcase with hc | hc
            · rw [hc, Nat.div_lt_iff_lt_mul (Nat.two_pow_pos r), ← Nat.pow_add, show 8 - r + r = 8 by omega]; exact hd256
            · have : d ≤ v * 2 ^ r := by rw [hd]; exact Nat.mod_le _ _
              rw [Nat.div_lt_iff_lt_mul (Nat.two_pow_pos r)]
              exact Nat.lt_of_le_of_lt this (Nat.mul_lt_mul_of_pos_right hc (Nat.two_pow_pos r))
          have g4 : 2 ^ r * (d / 2 ^ r + 1) ≤ 2 ^ r * 2 ^ take := Nat.mul_le_mul_left _ g3
          rw [← Nat.pow_add, Nat.mul_add, Nat.mul_one, ← g2] at g4
          exact g4
        have h3 : 256 ^ q * (d + 2 ^ r) ≤ 256 ^ q * 2 ^ (r + take) := Nat.mul_le_mul_left _ h2
        rw [Nat.mul_add] at h3
        omega
      exact ⟨d, hd, hor, hbytes, hset, hNew⟩

theorem n64 {v : Nat} (h : v < 18446744073709551616) : (v : Int) < 18446744073709551616 := by omega
theorem pk_q {q r left ol : Nat} (hlen : 8 * q + r + left ≤ 8 * ol) (hol : ol < 10000000) : q < 10000000 := by omega
theorem pk_ql {q r left ol : Nat} (hlen : 8 * q + r + left ≤ 8 * ol) (hz : ¬ left = 0) : q < ol := by omega
theorem pk_case {r left take : Nat} (h : take = min (8 - r) left) : take = 8 - r ∨ take = left := by omega
theorem pk_tl {r left take : Nat} (h : take = min (8 - r) left) : take ≤ left ∧ take ≤ 8 - r := by omega
theorem pk_e1 (q r : Nat) (hr : r < 8) (hq : q < 100000000) : wrap64 (Int.tdiv ((8 * q + r : Nat) : Int) 8) = (q : Int) := by
  have h : Int.tdiv ((8 * q + r : Nat) : Int) 8 = (q : Int) := by
    rw [Int.tdiv_eq_ediv_of_nonneg (Int.natCast_nonneg _)]; omega
  rw [h, w64 (by omega) (by omega)]
theorem pk_e2 (q r : Nat) (hr : r < 8) : Int.tmod ((8 * q + r : Nat) : Int) 8 = (r : Int) := by
  rw [Int.tmod_eq_emod_of_nonneg (Int.natCast_nonneg _)]; omega
theorem pk_e3 (r left take : Nat) (hr : r < 8) (h : take = min (8 - r) left) : mn (wrap64 (8 - (r : Int))) (left : Int) = (take : Int) := by
  rw [w64 (by omega) (by omega)]; unfold mn; split <;> omega
theorem pk_small (q r left take m q' r' ol : Nat) (hr : r < 8) (hq : q < 10000000) (hm : left ≤ m + 1) (h64 : left ≤ 64) (htk : take = min (8 - r) left) (hz : ¬ left = 0) (hqr : 8 * q + r + take = 8 * q' + r') (hr' : r' < 8) (hlen : 8 * q + r + left ≤ 8 * ol) (hol : ol < 10000000) :
    left - take ≤ m ∧ left - take ≤ 64 ∧ q' ≤ ol ∧ 8 * q' + r' + (left - take) ≤ 8 * ol ∧ 8 * q' + r' + (left - take) = 8 * q + r + left ∧ (left : Int) > 0 ∧ 0 ≤ (q : Int) ∧ (q : Int) < (ol : Int) ∧ IntKind.u64.wrap (r : Int) = (r : Int) ∧ 0 ≤ (r : Int) ∧ IntKind.u64.wrap (take : Int) = (take : Int) ∧ 0 ≤ (take : Int) ∧
    wrap64 (((8 * q + r : Nat) : Int) + (take : Int)) = ((8 * q' + r' : Nat) : Int) ∧ wrap64 ((left : Int) - (take : Int)) = ((left - take : Nat) : Int) := by
  refine ⟨by omega, by omega, by omega, by omega, by omega, by omega, by omega, by omega, u64w_id (by omega) (by omega), by omega, u64w_id (by omega) (by omega), by omega, ?_, ?_⟩
  · rw [w64 (by omega) (by omega)]; omega
  · rw [w64 (by omega) (by omega)]; omega
theorem pack_l1 (w : Int) (L : List Int) (n i : Int) : ∀ (m left : Nat) (out : List Int) (q r : Nat) (v : Nat), left ≤ m → left ≤ 64 → r < 8 → out.length < 10000000 → v < 2 ^ left → v < 18446744073709551616 → Bytes out → leN out < 2 ^ (8 * q + r) → 8 * q + r + left ≤ 8 * out.length →
    ∃ out', Bytes out' ∧ out'.length = out.length ∧ leN out' = leN out + v * 2 ^ (8 * q + r) ∧ ∀ res, Ev (fun k => bits_Pack.l0 k w out' ((8 * q + r + left : Nat) : Int) L n (wrap64 (i + 1))) res → Ev (fun k => bits_Pack.l1 k w out ((8 * q + r : Nat) : Int) v left L n i) res := by
  intro m
  induction m with
  | zero =>
    intro left out q r v hm h64 hr hol hv hv64 hb hN hlen
    have hl : left = 0 := by omega
    subst hl
    have hv0 : v = 0 := by simpa using hv
    subst hv0
    refine ⟨out, hb, rfl, by simp, ?_⟩
    intro res h
    refine Ev.step (f := fun k => bits_Pack.l0 k w out ((8 * q + r + 0 : Nat) : Int) L n (wrap64 (i + 1))) (fun k => ?_) h
    simp only [bits_Pack.l1]
    rw [if_neg (by omega), Nat.add_zero]
  | succ m ih =>
    intro left out q r v hm h64 hr hol hv hv64 hb hN hlen
    by_cases hz : left = 0
    · subst hz
      have hv0 : v = 0 := by simpa using hv
      subst hv0
      refine ⟨out, hb, rfl, by simp, ?_⟩
      intro res h
      refine Ev.step (f := fun k => bits_Pack.l0 k w out ((8 * q + r + 0 : Nat) : Int) L n (wrap64 (i + 1))) (fun k => ?_) h
      simp only [bits_Pack.l1]
      rw [if_neg (by omega), Nat.add_zero]
    · obtain ⟨take, htk⟩ : ∃ t, t = min (8 - r) left := ⟨_, rfl⟩
      obtain ⟨htl, ht8⟩ := pk_tl htk
      have hqlen : q < out.length := pk_ql hlen hz
      have hbq := hb out[q] (List.getElem_mem hqlen)
      have e1 := pk_e1 q r hr (Nat.lt_trans (pk_q hlen hol) (by decide))
      have e2 := pk_e2 q r hr
      have e3 := pk_e3 r left take hr htk
      obtain ⟨q', r', hqr, hr'⟩ : ∃ q' r', 8 * q + r + take = 8 * q' + r' ∧ r' < 8 := ⟨(8 * q + r + take) / 8, (8 * q + r + take) % 8, (Nat.div_add_mod _ 8).symm, Nat.mod_lt _ (by decide)⟩
      obtain ⟨g1, g2, g3, g4, g5, p1, p2, p3, p4, p5, p6, p7, t1, t2⟩ := pk_small q r left take m q' r' out.length hr (pk_q hlen hol) hm h64 htk hz hqr hr' hlen hol
      have hcase : take = 8 - r ∨ v < 2 ^ take := (pk_case htk).imp id (fun h => by rw [h]; exact hv)
      obtain ⟨d, hd, hor, hbytes, hset, hNew⟩ := pack_byte out q r v take hr hqlen hb hN hcase
      have hstep := pack_step (leN out) v q r take hr ht8 hcase
      have hvdiv : v / 2 ^ take < 2 ^ (left - take) := by
        rw [Nat.div_lt_iff_lt_mul (Nat.two_pow_pos take), ← Nat.pow_add, Nat.sub_add_cancel htl]; exact hv
      obtain ⟨out', hb', hl', hN', hgo⟩ := ih (left - take) (out.set q (out[q] + (d : Int))) q' r' (v / 2 ^ take) g1 g2 hr' (by rw [List.length_set]; exact hol) hvdiv (Nat.lt_of_le_of_lt (Nat.div_le_self _ _) hv64) hbytes (by rw [← hqr]; exact hNew) (by rw [List.length_set]; exact g4)
      refine ⟨out', hb', by rw [hl', List.length_set], ?_, ?_⟩
      · rw [hN', hset, ← hqr, hd]; exact hstep
      · intro res h
        refine Ev.step (fun k => ?_) (hgo res (by rw [g5]; exact h))
        simp only [bits_Pack.l1]
        rw [if_pos p1, e1, if_pos p2, if_pos p3, e2, p4, if_pos p5, e3, p6, if_pos p7]
        have s2 : shl .u8 ((v : Int) % 256) (r : Int) = ((d : Nat) : Int) := by rw [shl8 (Int.natCast_nonneg _) hr, Int.toNat_natCast, hd]
        have s3 : shr .u64 (v : Int) (take : Int) = ((v / 2 ^ take : Nat) : Int) := by rw [shr64 (Int.natCast_nonneg _) (n64 hv64), Int.toNat_natCast]
        rw [rd_get hqlen, s2, s3, hor, Int.toNat_natCast, t1, t2]

theorem pack_l0 (w : Nat) (hw : w ≤ 64) (L : List Int) (hn : L.length ≤ 65536) (hL : ∀ x ∈ L, 0 ≤ x ∧ x < 18446744073709551616 ∧ x.toNat < 2 ^ w) :
    ∀ (d i : Nat) (out : List Int), L.length = i + d → out.length < 10000000 → Bytes out → leN out = numN w (L.take i) → w * L.length ≤ 8 * out.length →
      Ev (fun k => bits_Pack.l0 k w out ((w * i : Nat) : Int) L L.length i) (digs out.length (numN w L), 0) := by
  intro d
  induction d with
  | zero =>
    intro i out hd hol hb hN hlen
    refine Ev.step (f := fun _ => some (digs out.length (numN w L), 0)) (fun k => ?_) (Ev.now _)
    simp only [bits_Pack.l0]
    rw [if_neg (by omega)]
    have : L.take i = L := List.take_of_length_le (by omega)
    rw [this] at hN
    rw [← hN, digs_leN out hb]
  | succ d ih =>
    intro i out hd hol hb hN hlen
    have hx := hL L[i] (List.getElem_mem (by omega))
    have hwi : w * i ≤ 64 * 65536 := Nat.mul_le_mul hw (by omega)
    have hlt : leN out < 2 ^ (w * i) := by
      rw [hN]
      have := numN_lt w (L.take i) (fun x hx => (hL x (List.mem_of_mem_take hx)).2.2)
      rw [List.length_take, Nat.min_eq_left (by omega)] at this; exact this
    have hqr : w * i = 8 * (w * i / 8) + w * i % 8 := by omega
    have hsum : w * i + w ≤ w * L.length := by
      have : w * (i + 1) ≤ w * L.length := Nat.mul_le_mul_left _ (by omega)
      rw [Nat.mul_add, Nat.mul_one] at this; exact this
    obtain ⟨out', hb', hl', hN', hgo⟩ := pack_l1 (w : Int) L L.length i w w out (w * i / 8) (w * i % 8) (L[i]).toNat (Nat.le_refl _) hw (Nat.mod_lt _ (by decide)) hol hx.2.2 (by omega) hb (by rw [← hqr]; exact hlt) (by rw [← hqr]; omega)
    rw [← hqr] at hN' hgo
    have htake : L.take (i + 1) = L.take i ++ [L[i]] := by rw [List.take_succ_eq_append_getElem (by omega)]
    have hrec := ih (i + 1) out' (by omega) (by rw [hl']; exact hol) hb' (by
      rw [hN', htake, numN_append, List.length_take, Nat.min_eq_left (by omega), hN]
      simp only [numN, Nat.mul_zero, Nat.add_zero]; rw [Nat.mul_comm (L[i]).toNat]) (by rw [hl']; exact hlen)
    rw [hl'] at hrec
    refine Ev.step (fun k => ?_) (hgo _ (by
      rw [w64 (by omega) (by omega)]
      have e1 : w * (i + 1) = w * i + w := by rw [Nat.mul_add, Nat.mul_one]
      rw [e1] at hrec
      simp only [Int.natCast_add, Int.natCast_one] at hrec ⊢
      exact hrec))
    simp only [bits_Pack.l0]
    rw [if_pos (by omega), if_pos (by omega), if_pos (by omega), rd_get (by omega), fits_f hx.1 hx.2.1 (by omega) (by omega), Option.bind_some, Int.toNat_natCast, decide_eq_true hx.2.2, if_pos rfl, Int.toNat_of_nonneg hx.1]
/-- a number that doesn't fit -/
theorem pack_l0_bad (w : Nat) (hw : w ≤ 64) (L : List Int) (hn : L.length ≤ 65536) (hL : ∀ x ∈ L, 0 ≤ x ∧ x < 18446744073709551616) :
    ∀ (d i : Nat) (out : List Int), L.length = i + d → (∃ x ∈ L.drop i, ¬ x.toNat < 2 ^ w) → (∀ x ∈ L.take i, x.toNat < 2 ^ w) → out.length < 10000000 → Bytes out → leN out = numN w (L.take i) → w * L.length ≤ 8 * out.length →
      Ev (fun k => bits_Pack.l0 k w out ((w * i : Nat) : Int) L L.length i) ([], 5) := by
  intro d
  induction d with
  | zero =>
    intro i out hd hbad _ _ hb hN hlen
    obtain ⟨x, hx, _⟩ := hbad
    rw [List.drop_of_length_le (by omega)] at hx; simp at hx
  | succ d ih =>
    intro i out hd hbad hgood hol hb hN hlen
    have hx := hL L[i] (List.getElem_mem (by omega))
    by_cases hf : (L[i]).toNat < 2 ^ w
    · have hwi : w * i ≤ 64 * 65536 := Nat.mul_le_mul hw (by omega)
      have hlt : leN out < 2 ^ (w * i) := by
        rw [hN]
        have := numN_lt w (L.take i) hgood
        rw [List.length_take, Nat.min_eq_left (by omega)] at this; exact this
      have hqr : w * i = 8 * (w * i / 8) + w * i % 8 := by omega
      have hsum : w * i + w ≤ w * L.length := by
        have : w * (i + 1) ≤ w * L.length := Nat.mul_le_mul_left _ (by omega)
        rw [Nat.mul_add, Nat.mul_one] at this; exact this
      obtain ⟨out', hb', hl', hN', hgo⟩ := pack_l1 (w : Int) L L.length i w w out (w * i / 8) (w * i % 8) (L[i]).toNat (Nat.le_refl _) hw (Nat.mod_lt _ (by decide)) hol hf (by omega) hb (by rw [← hqr]; exact hlt) (by rw [← hqr]; omega)
      rw [← hqr] at hN' hgo
      have htake : L.take (i + 1) = L.take i ++ [L[i]] := by rw [List.take_succ_eq_append_getElem (by omega)]
      have hrec := ih (i + 1) out' (by omega) (by
          obtain ⟨x, hxd, hxx⟩ := hbad
          have hxd' : x ∈ L[i] :: L.drop (i + 1) := by rw [← dropc L i (by omega)]; exact hxd
          rcases List.mem_cons.1 hxd' with e | h
          · exact absurd (by rw [e]; exact hf) hxx
          · exact ⟨x, h, hxx⟩) (by
          intro x hx
          rw [htake] at hx
          rcases List.mem_append.1 hx with hx | hx
          · exact hgood x hx
          · simp at hx; rw [hx]; exact hf) (by rw [hl']; exact hol) hb' (by
        rw [hN', htake, numN_append, List.length_take, Nat.min_eq_left (by omega), hN]
        simp only [numN, Nat.mul_zero, Nat.add_zero]; rw [Nat.mul_comm (L[i]).toNat]) (by rw [hl']; exact hlen)
      refine Ev.step (fun k => ?_) (hgo _ (by
        rw [w64 (by omega) (by omega)]
        have e1 : w * (i + 1) = w * i + w := by rw [Nat.mul_add, Nat.mul_one]
        rw [e1] at hrec
        simp only [Int.natCast_add, Int.natCast_one] at hrec ⊢
        exact hrec))
      simp only [bits_Pack.l0]
      rw [if_pos (by omega), if_pos (by omega), if_pos (by omega), rd_get (by omega), fits_f hx.1 hx.2 (by omega) (by omega), Option.bind_some, Int.toNat_natCast, decide_eq_true hf, if_pos rfl, Int.toNat_of_nonneg hx.1]
    · refine Ev.step (f := fun _ => some ([], 5)) (fun k => ?_) (Ev.now _)
      simp only [bits_Pack.l0]
      rw [if_pos (by omega), if_pos (by omega), if_pos (by omega), rd_get (by omega), fits_f hx.1 hx.2 (by omega) (by omega), Option.bind_some, Int.toNat_natCast, decide_eq_false hf, if_neg (by decide)]
def fitAll (L : List Int) (w : Nat) : Prop := ∀ x ∈ L, x.toNat < 2 ^ w
instance (L : List Int) (w : Nat) : Decidable (fitAll L w) := inferInstanceAs (Decidable (∀ x ∈ L, x.toNat < 2 ^ w))
def packed (L : List Int) (w : Int) : List Int × Int :=
  if okSize L.length w then (if fitAll L w.toNat then (digs (sizeN L.length w.toNat) (numN w.toNat L), 0) else ([], 5)) else ([], 1)
theorem bytes_zeros (n : Nat) : Bytes (List.replicate n 0) := by intro x hx; rw [(List.mem_replicate.1 hx).2]; decide
theorem pack_f (L : List Int) (w : Int) (hL : ∀ x ∈ L, 0 ≤ x ∧ x < 18446744073709551616) : Ev (fun k => bits_Pack.f k L w) (packed L w) := by
  unfold bits_Pack.f packed
  by_cases ho : okSize L.length w
  · obtain ⟨h1, h2, h3, h4⟩ := id ho
    obtain ⟨m, rfl⟩ := Int.eq_ofNat_of_zero_le h3
    rw [if_pos ho]
    have hs : sizeN L.length m < 10000000 := by
      unfold sizeN
      have : L.length * m ≤ 65536 * 64 := Nat.mul_le_mul (by omega) (by omega)
      omega
    have hle : m * L.length ≤ 8 * sizeN L.length m := by unfold sizeN; rw [Nat.mul_comm m]; omega
    refine Ev.congr (f := fun k => bits_Pack.l0 k m (List.replicate (sizeN L.length m) 0) ((m * 0 : Nat) : Int) L L.length ((0 : Nat) : Int)) (fun k => ?_) ?_
    · rw [size_f, if_pos ho, Option.bind_some, Int.toNat_natCast, if_neg (by omega)]
      simp only [Int.toNat_natCast]
      rw [if_pos (by omega), if_pos (by omega)]; rfl
    · by_cases hf : fitAll L m
      · rw [Int.toNat_natCast, if_pos hf]
        have := pack_l0 m (by omega) L (by omega) (fun x hx => ⟨(hL x hx).1, (hL x hx).2, hf x hx⟩) L.length 0 (List.replicate (sizeN L.length m) 0) (by omega) (by rw [List.length_replicate]; exact hs) (bytes_zeros _) (by simp [leN_zeros, numN]) (by simpa using hle)
        rw [List.length_replicate] at this; exact this
      · rw [Int.toNat_natCast, if_neg hf]
        unfold fitAll at hf
        refine pack_l0_bad m (by omega) L (by omega) hL L.length 0 _ (by omega) ?_ (by simp) (by rw [List.length_replicate]; exact hs) (bytes_zeros _) (by simp [leN_zeros, numN]) (by simpa using hle)
        have hf := Classical.not_forall.1 hf
        obtain ⟨x, hx⟩ := hf
        have hx := Classical.not_imp.1 hx
        exact ⟨x, by simpa using hx.1, hx.2⟩
  · rw [if_neg ho]
    refine Ev.congr (f := fun _ => some ([], 1)) (fun k => ?_) (Ev.now _)
    rw [size_f, if_neg ho, Option.bind_some, if_pos (by decide)]

/-! math/bits.Len64 -/
abbrev T8 : ByteArray := ⟨#[0, 1, 2, 2, 3, 3, 3, 3, 4, 4, 4, 4, 4, 4, 4, 4, 5, 5, 5, 5, 5, 5, 5, 5, 5, 5, 5, 5, 5, 5, 5, 5, 6, 6, 6, 6, 6, 6, 6, 6, 6, 6, 6, 6, 6, 6, 6, 6, 6, 6, 6, 6, 6, 6, 6, 6, 6, 6, 6, 6, 6, 6, 6, 6, 7, 7, 7, 7, 7, 7, 7, 7, 7, 7, 7, 7, 7, 7, 7, 7, 7, 7, 7, 7, 7, 7, 7, 7, 7, 7, 7, 7, 7, 7, 7, 7, 7, 7, 7, 7, 7, 7, 7, 7, 7, 7, 7, 7, 7, 7, 7, 7, 7, 7, 7, 7, 7, 7, 7, 7, 7, 7, 7, 7, 7, 7, 7, 7, 8, 8, 8, 8, 8, 8, 8, 8, 8, 8, 8, 8, 8, 8, 8, 8, 8, 8, 8, 8, 8, 8, 8, 8, 8, 8, 8, 8, 8, 8, 8, 8, 8, 8, 8, 8, 8, 8, 8, 8, 8, 8, 8, 8, 8, 8, 8, 8, 8, 8, 8, 8, 8, 8, 8, 8, 8, 8, 8, 8, 8, 8, 8, 8, 8, 8, 8, 8, 8, 8, 8, 8, 8, 8, 8, 8, 8, 8, 8, 8, 8, 8, 8, 8, 8, 8, 8, 8, 8, 8, 8, 8, 8, 8, 8, 8, 8, 8, 8, 8, 8, 8, 8, 8, 8, 8, 8, 8, 8, 8, 8, 8, 8, 8, 8, 8, 8, 8, 8, 8, 8, 8, 8, 8, 8, 8, 8, 8]⟩
theorem tab8 : ∀ n : Fin 256, bt T8 (n.val : Int) = (Lib.bitLen n.val : Int) := by decide +kernel
theorem tab8_at {i : Int} (h0 : 0 ≤ i) (h1 : i < 256) : bt T8 i = (Lib.bitLen i.toNat : Int) := by
  have := tab8 ⟨i.toNat, by omega⟩
  simpa [Int.toNat_of_nonneg h0] using this
theorem bitlen_le {v : Nat} (h : v < 18446744073709551616) : Lib.bitLen v ≤ 64 := Lib.bitLen_le v 64 (by decide) (by simpa using h)
theorem len8_some {x y : Int} (h0 : 0 ≤ x) (h1 : x < 256) (hy0 : 0 ≤ y) (hy1 : y < 1000) : (if 0 ≤ x % 256 then (if x % 256 < 256 then some (wrap64 (y + wrap64 (bt T8 (x % 256)))) else none) else none) = some (y + (Lib.bitLen x.toNat : Int)) := by
  have e : x % 256 = x := by omega
  have hb := bitlen_le (v := x.toNat) (by omega)
  rw [e, if_pos h0, if_pos h1, tab8_at h0 h1, w64 (n := (Lib.bitLen x.toNat : Int)) (by omega) (by omega), w64 (by omega) (by omega)]
theorem len32_j (k : Nat) {x y : Int} (h0 : 0 ≤ x) (h1 : x < 4294967296) (hy0 : 0 ≤ y) (hy1 : y < 100) : bits_Len64.j0 (k + 1) x y = some (y + (Lib.bitLen x.toNat : Int)) := by
  rw [bits_Len64.j0.eq_2]
  by_cases c1 : x ≥ 65536
  · rw [if_pos c1]
    have hs := Lib.bitLen_shift16 x.toNat (by omega) (by omega)
    have e1 : (x / 65536).toNat = x.toNat / 65536 := by omega
    by_cases c2 : x / 65536 ≥ 256
    · rw [if_pos c2]
      have hs2 := Lib.bitLen_shift8 (x.toNat / 65536) (by omega) (by omega)
      have e2 : (x / 65536 / 256).toNat = x.toNat / 65536 / 256 := by omega
      refine (len8_some (x := x / 65536 / 256) (y := wrap64 (wrap64 (y + 16) + 8)) (by omega) (by omega) ?_ ?_).trans ?_
      · rw [w64 (n := y + 16) (by omega) (by omega), w64 (by omega) (by omega)]; omega
      · rw [w64 (n := y + 16) (by omega) (by omega), w64 (by omega) (by omega)]; omega
      · rw [w64 (n := y + 16) (by omega) (by omega), w64 (by omega) (by omega), e2, hs, hs2]; congr 1; omega
    · rw [if_neg c2]
      refine (len8_some (x := x / 65536) (y := wrap64 (y + 16)) (by omega) (by omega) ?_ ?_).trans ?_
      · rw [w64 (by omega) (by omega)]; omega
      · rw [w64 (by omega) (by omega)]; omega
      · rw [w64 (by omega) (by omega), e1, hs]; congr 1; omega
  · rw [if_neg c1]
    by_cases c2 : x ≥ 256
    · rw [if_pos c2]
      have hs2 := Lib.bitLen_shift8 x.toNat (by omega) (by omega)
      have e2 : (x / 256).toNat = x.toNat / 256 := by omega
      refine (len8_some (x := x / 256) (y := wrap64 (y + 8)) (by omega) (by omega) ?_ ?_).trans ?_
      · rw [w64 (by omega) (by omega)]; omega
      · rw [w64 (by omega) (by omega)]; omega
      · rw [w64 (by omega) (by omega), e2, hs2]; congr 1; omega
    · rw [if_neg c2]
      exact len8_some h0 (by omega) hy0 (by omega)
theorem len64_f {x : Int} {k : Nat} (h0 : 0 ≤ x) (h1 : x < 18446744073709551616) (hk : 1 ≤ k) : bits_Len64.f k x = some (Lib.bitLen x.toNat : Int) := by
  obtain ⟨k, rfl⟩ : ∃ m, k = m + 1 := ⟨k - 1, by omega⟩
  unfold bits_Len64.f
  by_cases c : x ≥ 4294967296
  · have hs := Lib.bitLen_shift32 x.toNat (by omega) (by omega)
    have e : (x / 4294967296).toNat = x.toNat / 4294967296 := by omega
    rw [if_pos c, len32_j k (by omega) (by omega) (by omega) (by omega), e, hs]; rfl
  · rw [if_neg c, len32_j k h0 (by omega) (by omega) (by omega), Int.zero_add]

/-! bits.Width: the least width of all -/
def orAll (L : List Int) : Nat := L.foldl (fun a x => a ||| x.toNat) 0
def maxW (L : List Int) : Nat := L.foldl (fun a x => max a (Lib.bitLen x.toNat)) 0
theorem pk_no (a b : Nat) : ¬ a + (1 + b) ≤ a := by omega
theorem bitlen_lt {v k : Nat} (h : Lib.bitLen v ≤ k) (hv : v < 18446744073709551616) : v < 2 ^ k := by
  refine Classical.byContradiction fun hc => ?_
  have hk : k ≤ 64 ∨ 64 < k := by omega
  rcases hk with hk | hk
  · have := Lib.bitLen_shift k v (Nat.le_of_not_lt hc) (Nat.lt_of_lt_of_eq hv (by decide))
    have hpos : 1 ≤ v / 2 ^ k := by rw [Nat.le_div_iff_mul_le (Nat.two_pow_pos k), Nat.one_mul]; exact Nat.le_of_not_lt hc
    have h2 : v / 2 ^ k < 2 ^ 64 := Nat.lt_of_le_of_lt (Nat.div_le_self _ _) (Nat.lt_of_lt_of_eq hv (by decide))
    have h3 := Lib.bitLen_half (v / 2 ^ k) (Nat.ne_of_gt hpos) h2
    rw [this, h3] at h
    exact absurd h (pk_no _ _)
  · exact hc (Nat.lt_of_lt_of_le (Nat.lt_of_lt_of_eq hv (by decide : (18446744073709551616 : Nat) = 2 ^ 64)) (Nat.pow_le_pow_right (by decide) (Nat.le_of_lt hk)))
theorem bitlen_iff {v k : Nat} (hv : v < 18446744073709551616) (hk : k ≤ 64) : Lib.bitLen v ≤ k ↔ v < 2 ^ k :=
  ⟨fun h => bitlen_lt h hv, fun h => Lib.bitLen_le v k hk h⟩
theorem bitlen_or {a b : Nat} (ha : a < 18446744073709551616) (hb : b < 18446744073709551616) : Lib.bitLen (a ||| b) = max (Lib.bitLen a) (Lib.bitLen b) := by
  have p64 : (18446744073709551616 : Nat) = 2 ^ 64 := by decide
  have hab : a ||| b < 18446744073709551616 := by rw [p64] at *; exact Nat.or_lt_two_pow ha hb
  apply Nat.le_antisymm
  · have hm : max (Lib.bitLen a) (Lib.bitLen b) ≤ 64 := Nat.max_le.2 ⟨bitlen_le ha, bitlen_le hb⟩
    rw [bitlen_iff hab hm]
    exact Nat.or_lt_two_pow (Nat.lt_of_lt_of_le (bitlen_lt (Nat.le_refl _) ha) (Nat.pow_le_pow_right (by decide) (Nat.le_max_left _ _))) (Nat.lt_of_lt_of_le (bitlen_lt (Nat.le_refl _) hb) (Nat.pow_le_pow_right (by decide) (Nat.le_max_right _ _)))
  · have h := bitlen_lt (Nat.le_refl (Lib.bitLen (a ||| b))) hab
    refine Nat.max_le.2 ⟨(bitlen_iff ha (bitlen_le hab)).2 ?_, (bitlen_iff hb (bitlen_le hab)).2 ?_⟩
    · exact Nat.lt_of_le_of_lt Nat.left_le_or h
    · exact Nat.lt_of_le_of_lt Nat.right_le_or h
theorem width_l0 (L : List Int) (hn : L.length ≤ 65536) (hL : ∀ x ∈ L, 0 ≤ x ∧ x < 18446744073709551616) :
    ∀ (d k i a : Nat), L.length = i + d → d + 1 < k → a < 18446744073709551616 → bits_Width.l0 k a L L.length i = some ((((L.drop i).foldl (fun m x => max m (Lib.bitLen x.toNat)) (Lib.bitLen a) : Nat)) : Int) := by
  intro d
  induction d with
  | zero =>
    intro k i a hd hk ha
    obtain ⟨k, rfl⟩ : ∃ m, k = m + 1 := ⟨k - 1, by omega⟩
    simp only [bits_Width.l0]
    rw [if_neg (by omega), List.drop_of_length_le (by omega), len64_f (by omega) (by omega) (by omega), Option.bind_some]; simp
  | succ d ih =>
    intro k i a hd hk ha
    obtain ⟨k, rfl⟩ : ∃ m, k = m + 1 := ⟨k - 1, by omega⟩
    simp only [bits_Width.l0]
    have hx := hL L[i] (List.getElem_mem (by omega))
    have hx2 : (L[i]).toNat < 18446744073709551616 := by omega
    have p64 : (18446744073709551616 : Nat) = 2 ^ 64 := by decide
    have hor : bits .or .u64 (a : Int) (L[i]) = ((a ||| (L[i]).toNat : Nat) : Int) := by
      obtain ⟨y, hy⟩ := Int.eq_ofNat_of_zero_le hx.1
      rw [hy, Int.toNat_natCast]
      exact (bits_nat .u64 64 (by decide) wraps_u64 a y (by rw [← p64]; exact ha) (by rw [← p64]; omega)).2
    rw [if_pos (by omega), if_pos (by omega), if_pos (by omega), rd_get (by omega), hor, w64 (by omega) (by omega)]
    have := ih k (i + 1) (a ||| (L[i]).toNat) (by omega) (by omega) (by rw [p64] at *; exact Nat.or_lt_two_pow ha hx2)
    simp only [Int.natCast_add, Int.natCast_one] at this
    rw [this, dropc L i (by omega), List.foldl_cons, bitlen_or ha hx2]
theorem bitlen_zero : Lib.bitLen 0 = 0 := by decide
theorem width_f (L : List Int) (hn : L.length ≤ 65536) (hL : ∀ x ∈ L, 0 ≤ x ∧ x < 18446744073709551616) {k : Nat} (hk : L.length + 1 < k) : bits_Width.f k L = some (maxW L : Int) := by
  unfold bits_Width.f maxW
  have := width_l0 L hn hL L.length k 0 0 (by omega) hk (by omega)
  rw [List.drop_zero, bitlen_zero] at this
  exact this
theorem maxW_ge : ∀ (L : List Int) (a : Nat), a ≤ L.foldl (fun m x => max m (Lib.bitLen x.toNat)) a := by
  intro L; induction L with
  | nil => intro a; exact Nat.le_refl _
  | cons x L ih => intro a; exact Nat.le_trans (Nat.le_max_left _ _) (ih _)
theorem maxW_le : ∀ (L : List Int) (a w : Nat), L.foldl (fun m x => max m (Lib.bitLen x.toNat)) a ≤ w ↔ a ≤ w ∧ ∀ x ∈ L, Lib.bitLen x.toNat ≤ w := by
  intro L; induction L with
  | nil => intro a w; simp
  | cons x L ih => intro a w; rw [List.foldl_cons, ih, Nat.max_le]; simp [and_assoc]
theorem maxW_fit (L : List Int) (w : Nat) (hw : w ≤ 64) (hL : ∀ x ∈ L, 0 ≤ x ∧ x < 18446744073709551616) : maxW L ≤ w ↔ fitAll L w := by
  unfold maxW fitAll
  rw [maxW_le]
  constructor
  · intro h x hx; exact bitlen_lt (h.2 x hx) (by have := hL x hx; omega)
  · intro h; exact ⟨Nat.zero_le _, fun x hx => (bitlen_iff (by have := hL x hx; omega) hw).2 (h x hx)⟩
theorem maxW_64 (L : List Int) (hL : ∀ x ∈ L, 0 ≤ x ∧ x < 18446744073709551616) : maxW L ≤ 64 := by
  unfold maxW
  rw [maxW_le]
  exact ⟨Nat.zero_le _, fun x hx => bitlen_le (by have := hL x hx; omega)⟩

theorem digs_split : ∀ (a b N : Nat), digs (a + b) N = digs a N ++ digs b (N / 256 ^ a) := by
  intro a
  induction a with
  | zero => intro b N; simp [digs]
  | succ a ih =>
    intro b N
    rw [show a + 1 + b = (a + b) + 1 by omega]
    simp only [digs, List.cons_append]
    rw [ih b (N / 256), Nat.div_div_eq_div_mul, Nat.pow_succ, Nat.mul_comm 256]

/-! delta: steps, sums, turned numbers, Put -/
def I64 (x : Int) : Prop := -9223372036854775808 ≤ x ∧ x ≤ 9223372036854775807
theorem wrap_i64 (x : Int) : I64 (wrap64 x) := by unfold I64 wrap64; omega
def steps : Int → List Int → List Int
  | _, [] => []
  | last, x :: l => wrap64 (x - last) :: steps x l
def sums : Int → List Int → List Int
  | _, [] => []
  | last, x :: l => wrap64 (last + x) :: sums (wrap64 (last + x)) l
theorem steps_length : ∀ (l : List Int) (a : Int), (steps a l).length = l.length := by
  intro l; induction l with
  | nil => intro a; rfl
  | cons x l ih => intro a; simp [steps, ih]
theorem sums_length : ∀ (l : List Int) (a : Int), (sums a l).length = l.length := by
  intro l; induction l with
  | nil => intro a; rfl
  | cons x l ih => intro a; simp [sums, ih]
theorem steps_i64 : ∀ (l : List Int) (a : Int), ∀ x ∈ steps a l, I64 x := by
  intro l; induction l with
  | nil => intro a x hx; simp [steps] at hx
  | cons y l ih =>
    intro a x hx
    simp only [steps, List.mem_cons] at hx
    rcases hx with rfl | hx
    · exact wrap_i64 _
    · exact ih _ x hx
theorem steps_l0 (l : List Int) (hn : l.length ≤ 65536) : ∀ (d k i : Nat) (out : List Int) (last : Int), l.length = i + d → d < k → out.length ≤ i → delta_Steps.l0 k out last l l.length i = some (out ++ steps last (l.drop i)) := by
  intro d
  induction d with
  | zero =>
    intro k i out last hd hk ho
    obtain ⟨k, rfl⟩ : ∃ m, k = m + 1 := ⟨k - 1, by omega⟩
    simp only [delta_Steps.l0]
    rw [if_neg (by omega), List.drop_of_length_le (by omega)]; simp [steps]
  | succ d ih =>
    intro k i out last hd hk ho
    obtain ⟨k, rfl⟩ : ∃ m, k = m + 1 := ⟨k - 1, by omega⟩
    simp only [delta_Steps.l0]
    have := ih k (i + 1) (out ++ [wrap64 (l[i] - last)]) l[i] (by omega) (by omega) (by simp; omega)
    simp only [Int.natCast_add, Int.natCast_one] at this
    rw [if_pos (by omega), if_pos (by omega), if_pos (by omega), if_pos (by omega), rd_get (by omega), w64 (n := (i : Int) + 1) (by omega) (by omega), this, dropc l i (by omega), steps, List.append_assoc, List.singleton_append]
theorem steps_f (l : List Int) (hn : l.length ≤ 65536) : Ev (fun k => delta_Steps.f k l) (steps 0 l) := ⟨l.length + 1, fun k hk => by
  show delta_Steps.f k l = _
  unfold delta_Steps.f
  have := steps_l0 l hn l.length k 0 [] 0 (by omega) (by omega) (by simp)
  simpa using this⟩
theorem zigs_l0 (l : List Int) (hn : l.length ≤ 65536) (hw : ∀ x ∈ l, I64 x) : ∀ (d k i : Nat) (out : List Int), l.length = i + d → d < k → out.length ≤ i → delta_zigs.l0 k out l l.length i = some (out ++ (l.drop i).map zz) := by
  intro d
  induction d with
  | zero =>
    intro k i out hd hk ho
    obtain ⟨k, rfl⟩ : ∃ m, k = m + 1 := ⟨k - 1, by omega⟩
    simp only [delta_zigs.l0]
    rw [if_neg (by omega), List.drop_of_length_le (by omega)]; simp
  | succ d ih =>
    intro k i out hd hk ho
    obtain ⟨k, rfl⟩ : ∃ m, k = m + 1 := ⟨k - 1, by omega⟩
    simp only [delta_zigs.l0]
    have hx := hw l[i] (List.getElem_mem (by omega))
    have := ih k (i + 1) (out ++ [zz l[i]]) (by omega) (by omega) (by simp; omega)
    simp only [Int.natCast_add, Int.natCast_one] at this
    rw [if_pos (by omega), if_pos (by omega), if_pos (by omega), rd_get (by omega), zig_f hx.1 hx.2, Option.bind_some, if_pos (by omega), w64 (n := (i : Int) + 1) (by omega) (by omega), this, dropc l i (by omega), List.map_cons, List.append_assoc, List.singleton_append]
theorem zigs_f (l : List Int) (hn : l.length ≤ 65536) (hw : ∀ x ∈ l, I64 x) : Ev (fun k => delta_zigs.f k l) (l.map zz) := ⟨l.length + 1, fun k hk => by
  show delta_zigs.f k l = _
  unfold delta_zigs.f
  have := zigs_l0 l hn hw l.length k 0 [] (by omega) (by omega) (by simp)
  simpa using this⟩
theorem zz_u64 (l : List Int) (hw : ∀ x ∈ l, I64 x) : ∀ x ∈ l.map zz, 0 ≤ x ∧ x < 18446744073709551616 := by
  intro x hx
  obtain ⟨y, hy, rfl⟩ := List.mem_map.1 hx
  exact zz_range (hw y hy).1 (hw y hy).2
/-- the form of turned steps -/
def deltaForm : List Int → List Int
  | [] => []
  | z :: [] => leb z.toNat
  | z :: y :: r => leb z.toNat ++ [(maxW (y :: r) : Int)] ++ (packed (y :: r) (maxW (y :: r))).1
def deltaOf (l : List Int) : List Int := deltaForm ((steps 0 l).map zz)
theorem packed_maxd (d : List Int) (hn : d.length ≤ 65536) (hd : ∀ x ∈ d, 0 ≤ x ∧ x < 18446744073709551616) : (packed d (maxW d)).2 = 0 ∧ (packed d (maxW d)).1.length ≤ 8 * d.length := by
  have h64 := maxW_64 d hd
  have oa : okSize (d.length : Int) ((maxW d : Nat) : Int) := ⟨by omega, by omega, by omega, by omega⟩
  have hf : fitAll d (maxW d) := (maxW_fit d _ h64 hd).1 (Nat.le_refl _)
  unfold packed
  rw [if_pos oa, Int.toNat_natCast, if_pos hf]
  refine ⟨rfl, ?_⟩
  show (digs _ _).length ≤ _
  rw [digs_length]
  have : d.length * maxW d ≤ d.length * 64 := Nat.mul_le_mul_left _ h64
  unfold sizeN; omega
theorem width_evd (L : List Int) (hn : L.length ≤ 65536) (hL : ∀ x ∈ L, 0 ≤ x ∧ x < 18446744073709551616) : Ev (fun k => bits_Width.f k L) (maxW L : Int) := ⟨L.length + 2, fun k hk => width_f L hn hL (by omega)⟩
theorem byte_wd {w : Nat} (h : w ≤ 64) : (w : Int) % 256 = (w : Int) := by omega
theorem putvar_nil {v : Int} (h0 : 0 ≤ v) (h1 : v < 18446744073709551616) : Ev (fun k => num_PutVar.f k ([] : List Int) v) (leb v.toNat) := ⟨10, fun k hk => by
  have := putvar_f (b := []) (k := k) h0 h1 hk (by decide)
  simpa using this⟩
theorem deltaForm_length : ∀ (z : List Int), z.length ≤ 65536 → (∀ x ∈ z, 0 ≤ x ∧ x < 18446744073709551616) → (deltaForm z).length ≤ 8 * z.length + 11 := by
  intro z hn hz
  match z with
  | [] => exact Nat.zero_le _
  | [a] =>
    have ha := hz a (by simp)
    have := leb_length10 (v := a.toNat) (by omega)
    simp only [deltaForm]; omega
  | a :: y :: r =>
    have ha := hz a (by simp)
    have h10 := leb_length10 (v := a.toNat) (by omega)
    have := (packed_maxd (y :: r) (by simp at hn ⊢; omega) (fun x hx => hz x (by simp at hx ⊢; exact .inr hx))).2
    simp only [deltaForm, List.length_append, List.length_cons, List.length_nil] at this ⊢; omega
theorem deltaput_f (l : List Int) (hn : l.length ≤ 65536) : Ev (fun k => delta_Put.f k l) (deltaOf l, 0) := by
  unfold delta_Put.f deltaOf
  have c : ¬ (l.length : Int) > 65536 := by omega
  simp only [if_neg c]
  refine Ev.bind (steps_f l hn) ?_
  have hsl := steps_length l 0
  have hsi := steps_i64 l 0
  refine Ev.bind (zigs_f _ (by omega) hsi) ?_
  have hz := zz_u64 _ hsi
  have hzl : ((steps 0 l).map zz).length = l.length := by rw [List.length_map, hsl]
  obtain ⟨z, hzz⟩ : ∃ z, z = (steps 0 l).map zz := ⟨_, rfl⟩
  rw [← hzz] at hz hzl ⊢
  clear hzz
  match z, hz, hzl with
  | [], hz, hzl =>
    simp only [List.length_nil]
    have c1 : ¬ ((0 : Nat) : Int) = 1 := by decide
    have c2 : ((0 : Nat) : Int) = 0 := rfl
    simp only [if_neg c1, if_pos c2]; exact Ev.now _
  | [a], hz, hzl =>
    have c1 : (([a] : List Int).length : Int) = 1 := rfl
    have c2 : 0 < (([a] : List Int).length : Int) := by simp
    simp only [if_pos c1, if_pos c2]
    have ha := hz a (by simp)
    exact Ev.bind (putvar_nil ha.1 ha.2) (Ev.now _)
  | a :: y :: r, hz, hzl =>
    have c1 : ¬ ((a :: y :: r : List Int).length : Int) = 1 := by simp only [List.length_cons]; omega
    have c2 : ¬ ((a :: y :: r : List Int).length : Int) = 0 := by simp only [List.length_cons]; omega
    have c3 : 1 ≤ ((a :: y :: r : List Int).length : Int) := by simp only [List.length_cons]; omega
    have c4 : 0 < ((a :: y :: r : List Int).length : Int) := by simp only [List.length_cons]; omega
    simp only [if_neg c1, if_neg c2, if_pos c3, if_pos c4]
    have ha := hz a (by simp)
    have hr : ∀ x ∈ y :: r, 0 ≤ x ∧ x < 18446744073709551616 := fun x hx => hz x (List.mem_cons_of_mem _ hx)
    have hrl : (y :: r).length ≤ 65536 := by simp only [List.length_cons] at hzl ⊢; omega
    obtain ⟨q1, q2⟩ := packed_maxd _ hrl hr
    refine Ev.bind (Ev.now _) ?_
    refine Ev.bind (width_evd (y :: r) hrl hr) ?_
    refine Ev.bind (pack_f (y :: r) _ hr) ?_
    refine Ev.bind (Ev.now _) ?_
    have i1 : ([((maxW (y :: r) : Nat) : Int)] : List Int).length + (packed (y :: r) ((maxW (y :: r) : Nat) : Int)).1.length < 140737488355328 := by simp only [List.length_singleton]; omega
    simp only [byte_wd (maxW_64 _ hr), if_pos i1]
    refine Ev.bind (Ev.now _) ?_
    refine Ev.bind (putvar_nil ha.1 ha.2) ?_
    have h10 := leb_length10 (v := a.toNat) (by omega)
    have i2 : (leb a.toNat).length + ([((maxW (y :: r) : Nat) : Int)] ++ (packed (y :: r) ((maxW (y :: r) : Nat) : Int)).1).length < 140737488355328 := by rw [List.length_append, List.length_singleton]; omega
    have e : rd (a :: y :: r) 0 = a := rfl
    rw [e]
    simp only [if_pos i2, q1, deltaForm, List.append_assoc]
    exact Ev.now _
theorem deltaawake_eq : deltaOf [10, 11, 13] = [20, 3, 34] := by
  have h1 : (steps 0 [10, 11, 13]).map zz = [20, 2, 4] := by decide +kernel
  have h3 : maxW [2, 4] = 3 := by decide
  have h4 : packed [2, 4] ((3 : Nat) : Int) = ([34], 0) := by decide
  unfold deltaOf
  rw [h1]
  show leb _ ++ [((maxW [2, 4] : Nat) : Int)] ++ (packed [2, 4] ((maxW [2, 4] : Nat) : Int)).1 = _
  rw [h3, h4, leb_small (by decide)]; decide
theorem deltaawake : Ev (fun k => estreatlaw10_awake.f k) true := by
  unfold estreatlaw10_awake.f
  refine Ev.bind (deltaput_f [10, 11, 13] (by decide)) ?_
  rw [deltaawake_eq]
  refine Ev.bind (a := true) ⟨10, fun k hk => by
    have := same_f [20, 3, 34] [20, 3, 34] (by decide) k (by simp; omega)
    simpa using this⟩ ?_
  simp only [if_true]
  exact Ev.now _

theorem sums_l0 (l : List Int) (hn : l.length ≤ 65536) : ∀ (d k i : Nat) (out : List Int) (last : Int), l.length = i + d → d < k → out.length ≤ i → delta_Sums.l0 k out last l l.length i = some (out ++ sums last (l.drop i)) := by
  intro d
  induction d with
  | zero =>
    intro k i out last hd hk ho
    obtain ⟨k, rfl⟩ : ∃ m, k = m + 1 := ⟨k - 1, by omega⟩
    simp only [delta_Sums.l0]
    rw [if_neg (by omega), List.drop_of_length_le (by omega)]; simp [sums]
  | succ d ih =>
    intro k i out last hd hk ho
    obtain ⟨k, rfl⟩ : ∃ m, k = m + 1 := ⟨k - 1, by omega⟩
    simp only [delta_Sums.l0]
    have := ih k (i + 1) (out ++ [wrap64 (last + l[i])]) (wrap64 (last + l[i])) (by omega) (by omega) (by simp; omega)
    simp only [Int.natCast_add, Int.natCast_one] at this
    rw [if_pos (by omega), if_pos (by omega), if_pos (by omega), if_pos (by omega), rd_get (by omega), w64 (n := (i : Int) + 1) (by omega) (by omega), this, dropc l i (by omega), sums, List.append_assoc, List.singleton_append]
theorem sums_f (l : List Int) (hn : l.length ≤ 65536) : Ev (fun k => delta_Sums.f k l) (sums 0 l) := ⟨l.length + 1, fun k hk => by
  show delta_Sums.f k l = _
  unfold delta_Sums.f
  have := sums_l0 l hn l.length k 0 [] 0 (by omega) (by omega) (by simp)
  simpa using this⟩

/-! numbers of w bits each out of one number -/
def nums_ (w : Nat) : Nat → Nat → List Int
  | 0, _ => []
  | n + 1, B => ((B % 2 ^ w : Nat) : Int) :: nums_ w n (B / 2 ^ w)
theorem nums_length (w : Nat) : ∀ n B, (nums_ w n B).length = n := by
  intro n; induction n with
  | zero => intro B; rfl
  | succ n ih => intro B; simp [nums_, ih]
theorem nums_snoc (w : Nat) : ∀ n B, nums_ w (n + 1) B = nums_ w n B ++ [((B / 2 ^ (w * n) % 2 ^ w : Nat) : Int)] := by
  intro n; induction n with
  | zero => intro B; simp [nums_]
  | succ n ih =>
    intro B
    rw [nums_, ih (B / 2 ^ w), nums_, List.cons_append, Nat.div_div_eq_div_mul, ← Nat.pow_add, Nat.mul_add w n 1, Nat.mul_one, Nat.add_comm w]
def unpacked (b : List Int) (n w : Int) : List Int × Int :=
  if okSize n w then (if b.length < sizeN n.toNat w.toNat then ([], 2) else if sizeN n.toNat w.toNat < b.length then ([], 3) else if leN b < 2 ^ (w.toNat * n.toNat) then (nums_ w.toNat n.toNat (leN b), 0) else ([], 4)) else ([], 1)
/-- bytes: the last one -/
theorem leN_snoc : ∀ (xs : List Int) (x : Int), leN (xs ++ [x]) = leN xs + 256 ^ xs.length * x.toNat := by
  intro xs; induction xs with
  | nil => intro x; simp [leN]
  | cons y xs ih =>
    intro x
    simp only [List.cons_append, leN, ih, List.length_cons, Nat.pow_succ, Nat.mul_add]
    have : 256 * (256 ^ xs.length * x.toNat) = 256 ^ xs.length * 256 * x.toNat := by rw [Nat.mul_comm (256 ^ xs.length) 256, Nat.mul_assoc]
    omega
theorem leN_last (b : List Int) (s r : Nat) (hs : b.length = s + 1) (hb : Bytes b) : leN b < 2 ^ (8 * s + r) ↔ (b[s]'(by omega)).toNat < 2 ^ r := by
  have e : b = b.take s ++ [b[s]'(by omega)] := by
    have h1 := List.take_succ_eq_append_getElem (l := b) (i := s) (by omega)
    rw [List.take_of_length_le (by omega)] at h1; exact h1
  have hl : (b.take s).length = s := by rw [List.length_take]; omega
  have hlt := leN_lt (b.take s) (fun x hx => hb x (List.mem_of_mem_take hx))
  rw [hl] at hlt
  have hN : leN b = leN (b.take s) + 256 ^ s * (b[s]'(by omega)).toNat := by
    conv => lhs; rw [e]
    rw [leN_snoc, hl]
  rw [hN, pow8]
  constructor
  · intro h
    refine Nat.lt_of_mul_lt_mul_left (a := 256 ^ s) (Nat.lt_of_le_of_lt (Nat.le_add_left _ _) h)
  · intro h
    have : 256 ^ s * ((b[s]'(by omega)).toNat + 1) ≤ 256 ^ s * 2 ^ r := Nat.mul_le_mul_left _ h
    rw [Nat.mul_add, Nat.mul_one] at this
    exact Nat.lt_of_lt_of_le (by rw [Nat.add_comm]; exact Nat.add_lt_add_left hlt _) this
/-- a bit of bytes -/
theorem leN_bit (b : List Int) (p : Nat) (hp : p / 8 < b.length) (hb : Bytes b) : (b[p / 8]).toNat.testBit (p % 8) = (leN b).testBit p := by
  rw [leN_at b (p / 8) hp hb, show (256 : Nat) = 2 ^ 8 by decide, Nat.testBit_mod_two_pow, ← Nat.pow_mul, Nat.testBit_div_two_pow]
  have h8 : p % 8 < 8 := Nat.mod_lt _ (by decide)
  rw [decide_eq_true h8, Bool.true_and]
  congr 1
  omega
/-- part of a byte -/
theorem byte_part (N q r t : Nat) (h : r + t ≤ 8) : N / 256 ^ q % 256 / 2 ^ r % 2 ^ t = N / 2 ^ (8 * q + r) % 2 ^ t := by
  have e : N / 2 ^ (8 * q + r) = N / 256 ^ q / 2 ^ r := by rw [pow8, Nat.div_div_eq_div_mul]
  rw [e]
  obtain ⟨M, hM⟩ : ∃ M, M = N / 256 ^ q := ⟨_, rfl⟩
  rw [← hM]
  have h256 : (256 : Nat) = 2 ^ r * 2 ^ (8 - r) := by rw [← Nat.pow_add, Nat.add_sub_cancel' (Nat.le_trans (Nat.le_add_right r t) h)]
  rw [h256, Nat.mod_mul_right_div_self, Nat.mod_mod_of_dvd]
  exact Nat.pow_dvd_pow 2 (by omega)
theorem join_bits (B a h t : Nat) : B / 2 ^ a % 2 ^ h + (B / 2 ^ (a + h) % 2 ^ t) * 2 ^ h = B / 2 ^ a % 2 ^ (h + t) := by
  rw [Nat.pow_add 2 a h, ← Nat.div_div_eq_div_mul, Nat.pow_add 2 h t, Nat.mod_mul, Nat.mul_comm (2 ^ h)]

theorem up_sub {w h t m : Nat} (hm : w - h ≤ m + 1) (ht : 1 ≤ t) : w - (h + t) ≤ m := by omega
theorem up_256 {x : Int} (h : 0 ≤ x ∧ x < 256) : x.toNat < 256 := by omega
theorem up_2_64 {x : Nat} (h : x < 256) : (x : Int) < 2 ^ 64 := Int.lt_trans (Int.ofNat_lt.2 h) (by decide)
theorem up_cast {x : Nat} (h : x < 256) : (x : Int) < 18446744073709551616 := by omega
/-! bits.Unpack -/
theorem shr8' {x : Int} {r : Nat} (h0 : 0 ≤ x) (hr : r ≤ 8) : shr .u8 x r = ((x.toNat / 2 ^ r : Nat) : Int) := by
  obtain ⟨a, rfl⟩ := Int.eq_ofNat_of_zero_le h0
  unfold shr
  have hb : IntKind.u8.bits = 8 := rfl
  rw [hb, Int.toNat_natCast, Nat.min_eq_left hr, Int.toNat_natCast]; simp
theorem shl64 {x n : Nat} (hn : n ≤ 64) (h : x * 2 ^ n < 18446744073709551616) : shl .u64 (x : Int) n = ((x * 2 ^ n : Nat) : Int) := by
  unfold shl
  have hb : IntKind.u64.bits = 64 := rfl
  rw [hb, Int.toNat_natCast, Nat.min_eq_left hn]
  have e : (x : Int) * 2 ^ n = ((x * 2 ^ n : Nat) : Int) := by simp
  rw [e, u64w_id (Int.natCast_nonneg _) (Int.ofNat_lt.2 h)]
theorem mask64 {x t : Nat} (hx : x < 256) (ht : t ≤ 8) : bits .and .u64 (x : Int) (IntKind.u64.wrap (shl .u64 1 (t : Int) - 1)) = ((x % 2 ^ t : Nat) : Int) := by
  have hp : 2 ^ t ≤ 256 := Nat.pow_le_pow_right (n := 2) (by decide) (j := 8) ht
  have hp1 : 1 ≤ 2 ^ t := Nat.one_le_two_pow
  have e1 : shl .u64 1 (t : Int) = ((2 ^ t : Nat) : Int) := by
    have := shl64 (x := 1) (n := t) (by omega) (by rw [Nat.one_mul]; omega)
    rw [Nat.one_mul] at this; exact this
  have e2 : IntKind.u64.wrap (((2 ^ t : Nat) : Int) - 1) = (2 : Int) ^ t - 1 := by
    rw [u64w_id (by omega) (by omega)]; simp
  rw [e1, e2, bits_mask .u64 64 (by decide) wraps_u64 t (by omega) (x : Int) (Int.natCast_nonneg _) (up_2_64 hx)]
  simp
theorem or_join64 {v p h t : Nat} (hv : v < 2 ^ h) (hp : p < 2 ^ t) (ht : h + t ≤ 64) : bits .or .u64 (v : Int) ((p * 2 ^ h : Nat) : Int) = ((v + p * 2 ^ h : Nat) : Int) := by
  have h1 : v < 2 ^ 64 := Nat.lt_of_lt_of_le hv (Nat.pow_le_pow_right (by decide) (by omega))
  have h2 : p * 2 ^ h < 2 ^ 64 := by
    have : p * 2 ^ h < 2 ^ t * 2 ^ h := Nat.mul_lt_mul_of_pos_right hp (Nat.two_pow_pos h)
    rw [← Nat.pow_add] at this
    exact Nat.lt_of_lt_of_le this (Nat.pow_le_pow_right (by decide) (by omega))
  rw [(bits_nat .u64 64 (by decide) wraps_u64 v (p * 2 ^ h) h1 h2).2, Nat.or_comm, Nat.mul_comm p, ← Nat.two_pow_add_eq_or_of_lt hv p, Nat.add_comm]
theorem up_nat (q r w have_ take ol : Nat) (hr : r < 8) (hlt : have_ < w) (hw : w ≤ 64) (hol : ol < 10000000) (htk : take = min (8 - r) (w - have_)) (hlen : 8 * q + r + (w - have_) ≤ 8 * ol) :
    q < ol ∧ 1 ≤ take ∧ take ≤ 8 ∧ r + take ≤ 8 ∧ have_ + take ≤ w ∧ wrap64 ((w : Int) - (have_ : Int)) = ((w - have_ : Nat) : Int) ∧
    wrap64 (((8 * q + r : Nat) : Int) + (take : Int)) = ((8 * q + r + take : Nat) : Int) ∧ wrap64 ((have_ : Int) + (take : Int)) = ((have_ + take : Nat) : Int) ∧ IntKind.u64.wrap (r : Int) = (r : Int) ∧ IntKind.u64.wrap (take : Int) = (take : Int) ∧ IntKind.u64.wrap (have_ : Int) = (have_ : Int) ∧ q < 10000000 ∧ 8 * q + r + take + (w - (have_ + take)) ≤ 8 * ol := by
  refine ⟨by omega, by omega, by omega, by omega, by omega, ?_, ?_, ?_, u64w_id (by omega) (by omega), u64w_id (by omega) (by omega), u64w_id (by omega) (by omega), by omega, by omega⟩
  · rw [w64 (by omega) (by omega)]; omega
  · rw [w64 (by omega) (by omega)]; omega
  · rw [w64 (by omega) (by omega)]; omega
theorem unpack_l1 (b : List Int) (hb : Bytes b) (hol : b.length < 10000000) (w : Nat) (hw : w ≤ 64) (out : List Int) (hout : out.length < 17592186044416) (n i : Int) (a : Nat) :
    ∀ (m have_ q r : Nat), w - have_ ≤ m → have_ ≤ w → a + have_ = 8 * q + r → r < 8 → 8 * q + r + (w - have_) ≤ 8 * b.length → ∀ res, Ev (fun k => bits_Unpack.l0 k b w (out ++ [((leN b / 2 ^ a % 2 ^ w : Nat) : Int)]) ((a + w : Nat) : Int) n (wrap64 (i + 1))) res →
      Ev (fun k => bits_Unpack.l1 k b w out ((8 * q + r : Nat) : Int) ((leN b / 2 ^ a % 2 ^ have_ : Nat) : Int) have_ n i) res := by
  intro m
  induction m with
  | zero =>
    intro have_ q r hm hh ha hr hlen res h
    have : have_ = w := Nat.le_antisymm hh (Nat.le_of_sub_eq_zero (Nat.le_zero.1 hm))
    subst this
    refine Ev.step (fun k => ?_) h
    simp only [bits_Unpack.l1]
    rw [if_pos trivial, if_pos hout, ← ha]
  | succ m ih =>
    intro have_ q r hm hh ha hr hlen res h
    by_cases he : have_ = w
    · subst he
      refine Ev.step (fun k => ?_) h
      simp only [bits_Unpack.l1]
      rw [if_pos trivial, if_pos hout, ← ha]
    · have hlt : have_ < w := Nat.lt_of_le_of_ne hh he
      obtain ⟨take, htk⟩ : ∃ t, t = min (8 - r) (w - have_) := ⟨_, rfl⟩
      obtain ⟨g1, g2, g3, g4, g5, g6, g7, g8, g9, g10, g11, g12, g13⟩ := up_nat q r w have_ take b.length hr hlt hw hol htk hlen
      have e1 := pk_e1 q r hr (Nat.lt_trans g12 (by decide))
      have e2 := pk_e2 q r hr
      have e3 := pk_e3 r (w - have_) take hr htk
      obtain ⟨q', r', hqr, hr'⟩ : ∃ q' r', 8 * q + r + take = 8 * q' + r' ∧ r' < 8 := ⟨(8 * q + r + take) / 8, (8 * q + r + take) % 8, (Nat.div_add_mod _ 8).symm, Nat.mod_lt _ (by decide)⟩
      have hsub : w - (have_ + take) ≤ m := up_sub hm g2
      have hih := ih (have_ + take) q' r' hsub g5 (by rw [← hqr, ← ha, Nat.add_assoc]) hr' (by rw [← hqr]; exact g13) res h
      have hbq := hb b[q] (List.getElem_mem g1)
      have hpart := byte_part (leN b) q r take g4
      rw [← leN_at b q g1 hb, ← ha] at hpart
      have hb256 : (b[q]).toNat / 2 ^ r < 256 := Nat.lt_of_le_of_lt (Nat.div_le_self _ _) (up_256 hbq)
      have s1 : IntKind.u64.wrap (shr .u8 (rd b (q : Int)) (r : Int)) = (((b[q]).toNat / 2 ^ r : Nat) : Int) := by
        rw [rd_get g1, shr8' hbq.1 (Nat.le_of_lt hr), u64w_id (Int.natCast_nonneg _) (up_cast hb256)]
      have hplt : leN b / 2 ^ (a + have_) % 2 ^ take < 2 ^ take := Nat.mod_lt _ (Nat.two_pow_pos _)
      have hvlt : leN b / 2 ^ a % 2 ^ have_ < 2 ^ have_ := Nat.mod_lt _ (Nat.two_pow_pos _)
      have h64 : have_ + take ≤ 64 := Nat.le_trans g5 hw
      have s2 : shl .u64 ((leN b / 2 ^ (a + have_) % 2 ^ take : Nat) : Int) (have_ : Int) = ((leN b / 2 ^ (a + have_) % 2 ^ take * 2 ^ have_ : Nat) : Int) := by
        refine shl64 (Nat.le_trans (Nat.le_add_right _ _) h64) ?_
        have : leN b / 2 ^ (a + have_) % 2 ^ take * 2 ^ have_ < 2 ^ take * 2 ^ have_ := Nat.mul_lt_mul_of_pos_right hplt (Nat.two_pow_pos _)
        rw [← Nat.pow_add] at this
        exact Nat.lt_of_lt_of_le this (Nat.le_trans (Nat.pow_le_pow_right (n := 2) (by decide) (j := 64) (by rw [Nat.add_comm]; exact h64)) (by decide))
      refine Ev.step (fun k => ?_) hih
      simp only [bits_Unpack.l1]
      rw [if_neg (fun hc => he (Int.ofNat_inj.1 hc)), e1, if_pos (Int.natCast_nonneg _), if_pos (Int.ofNat_lt.2 g1), e2, g9, if_pos (Int.natCast_nonneg _), g6, e3, g10, if_pos (Int.natCast_nonneg _), g11, if_pos (Int.natCast_nonneg _), s1, mask64 hb256 g3, hpart, s2, or_join64 hvlt hplt h64, join_bits, g7, g8, hqr]
theorem unpack_l0 (b : List Int) (hb : Bytes b) (w : Nat) (hw : w ≤ 64) (n : Nat) (hn : n ≤ 65536) (hlen : w * n ≤ 8 * b.length) (hol : b.length < 10000000) :
    ∀ (d i : Nat), n = i + d → Ev (fun k => bits_Unpack.l0 k b w (nums_ w i (leN b)) ((w * i : Nat) : Int) n i) (nums_ w n (leN b), 0) := by
  intro d
  induction d with
  | zero =>
    intro i hd
    have : i = n := hd.symm
    subst this
    refine Ev.step (f := fun _ => some (nums_ w i (leN b), 0)) (fun k => ?_) (Ev.now _)
    simp only [bits_Unpack.l0]
    rw [if_neg (Int.lt_irrefl _)]
  | succ d ih =>
    intro i hd
    have hrec := ih (i + 1) (by omega)
    have hwi : w * i + w ≤ 8 * b.length := by
      have : w * (i + 1) ≤ w * n := Nat.mul_le_mul_left _ (by omega)
      rw [Nat.mul_add, Nat.mul_one] at this; omega
    refine Ev.step (fun k => ?_) (unpack_l1 b hb hol w hw (nums_ w i (leN b)) (by rw [nums_length]; omega) n i (w * i) w 0 (w * i / 8) (w * i % 8) (Nat.le_refl _) (Nat.zero_le _) (by rw [Nat.add_zero, Nat.div_add_mod]) (Nat.mod_lt _ (by decide)) (by rw [Nat.div_add_mod, Nat.sub_zero]; exact hwi) _ (by
      rw [← nums_snoc, w64 (by omega) (by omega)]
      rw [Nat.mul_add, Nat.mul_one] at hrec
      exact hrec))
    simp only [bits_Unpack.l0]
    rw [if_pos (by omega), Nat.div_add_mod, Nat.pow_zero, Nat.mod_one]; rfl
theorem up_size {n w : Nat} (h : n * w % 8 = 0) : sizeN n w * 8 = n * w := by unfold sizeN; omega
theorem up_size2 {n w : Nat} (h : ¬ n * w % 8 = 0) : n * w = 8 * (sizeN n w - 1) + n * w % 8 ∧ sizeN n w = sizeN n w - 1 + 1 := by unfold sizeN; omega
theorem unpack_f (b : List Int) (hb : Bytes b) (n w : Int) : Ev (fun k => bits_Unpack.f k b n w) (unpacked b n w) := by
  unfold bits_Unpack.f unpacked
  rw [size_f]
  refine Ev.bind (Ev.now _) ?_
  by_cases ho : okSize n w
  · obtain ⟨h1, h2, h3, h4⟩ := id ho
    obtain ⟨m, rfl⟩ := Int.eq_ofNat_of_zero_le h3
    obtain ⟨n, rfl⟩ := Int.eq_ofNat_of_zero_le h1
    simp only [if_pos ho, Int.toNat_natCast]
    have hnw : n * m ≤ 65536 * 64 := Nat.mul_le_mul (by omega) (by omega)
    have hs0 : sizeN n m = (n * m + 7) / 8 := rfl
    have hneg : ¬ ((sizeN n m : Nat) : Int) < 0 := Int.not_lt.2 (Int.natCast_nonneg _)
    simp only [if_neg hneg]
    by_cases c1 : b.length < sizeN n m
    · simp only [if_pos (Int.ofNat_lt.2 c1), if_pos c1]; exact Ev.now _
    simp only [if_neg (fun h => c1 (Int.ofNat_lt.1 h)), if_neg c1]
    by_cases c2 : sizeN n m < b.length
    · have : (b.length : Int) > ((sizeN n m : Nat) : Int) := Int.ofNat_lt.2 c2
      simp only [if_pos this, if_pos c2]; exact Ev.now _
    have c2' : ¬ (b.length : Int) > ((sizeN n m : Nat) : Int) := fun h => c2 (Int.ofNat_lt.1 h)
    simp only [if_neg c2', if_neg c2]
    have hlen : b.length = sizeN n m := by omega
    have emul : wrap64 ((n : Int) * (m : Int)) = ((n * m : Nat) : Int) := by rw [← Int.natCast_mul, w64 (by omega) (by omega)]
    have emod : Int.tmod ((n * m : Nat) : Int) 8 = ((n * m % 8 : Nat) : Int) := by rw [Int.tmod_eq_emod_of_nonneg (Int.natCast_nonneg _)]; omega
    rw [emul, emod]
    have hol : b.length < 10000000 := by omega
    have hgo : leN b < 2 ^ (m * n) → Ev (fun k => bits_Unpack.l0 k b m [] 0 n 0) (nums_ m n (leN b), 0) := fun _ => by
      exact unpack_l0 b hb m (by omega) n (by omega) (by rw [hlen, Nat.mul_comm m]; omega) hol n 0 (by omega)
    by_cases c3 : n * m % 8 = 0
    · have c3' : ((n * m % 8 : Nat) : Int) = 0 := by rw [c3]; rfl
      have hlt : leN b < 2 ^ (m * n) := by
        have := leN_lt b hb
        rw [show (256 : Nat) = 2 ^ 8 by decide, ← Nat.pow_mul, hlen, Nat.mul_comm 8, up_size c3, Nat.mul_comm n] at this; exact this
      simp only [if_pos c3', if_pos hlt]
      exact hgo hlt
    · have c3' : ¬ ((n * m % 8 : Nat) : Int) = 0 := fun h => c3 (Int.ofNat_inj.1 h)
      obtain ⟨u1, u2⟩ := up_size2 c3
      have hpos : sizeN n m - 1 < b.length := by omega
      have e1 : wrap64 (((sizeN n m : Nat) : Int) - 1) = ((sizeN n m - 1 : Nat) : Int) := by rw [w64 (by omega) (by omega)]; omega
      have e2 : IntKind.u64.wrap ((n * m % 8 : Nat) : Int) = ((n * m % 8 : Nat) : Int) := u64w_id (by omega) (by omega)
      have hbq := hb b[sizeN n m - 1] (List.getElem_mem hpos)
      have hiff := leN_last b (sizeN n m - 1) (n * m % 8) (by omega) hb
      rw [← u1, Nat.mul_comm n] at hiff
      rw [e1, e2]
      simp only [if_neg c3', if_pos (Int.natCast_nonneg (sizeN n m - 1)), if_pos (Int.ofNat_lt.2 hpos), if_pos (Int.natCast_nonneg (n * m % 8))]
      rw [rd_get hpos, shr8' hbq.1 (Nat.le_of_lt (Nat.mod_lt _ (by decide)))]
      by_cases c4 : leN b < 2 ^ (m * n)
      · have hz : (((b[sizeN n m - 1]).toNat / 2 ^ (n * m % 8) : Nat) : Int) = 0 := by rw [Nat.mul_comm n] at *; rw [Nat.div_eq_of_lt (hiff.1 c4)]; rfl
        simp only [if_pos hz, if_pos c4]
        exact hgo c4
      · have hz : ¬ (((b[sizeN n m - 1]).toNat / 2 ^ (n * m % 8) : Nat) : Int) = 0 := fun h => c4 (hiff.2 (by
          rcases Nat.div_eq_zero_iff.1 (Int.ofNat_inj.1 h) with h | h
          · exact absurd h (Nat.ne_of_gt (Nat.two_pow_pos _))
          · rw [Nat.mul_comm n] at h; exact h))
        simp only [if_neg hz, if_neg c4]
        exact Ev.now _
  · simp only [if_neg ho]
    have : (-1 : Int) < 0 := by decide
    simp only [if_pos this]
    exact Ev.now _

/-! the short number that begins bytes: how many bytes it has, or an error -/
def sh : List Int → Nat → Nat → Int × Int × Int
  | [], _, _ => (0, 0, 2)
  | b :: l, n, v =>
    if 9 < n ∨ (n = 9 ∧ 1 < b.toNat % 128) ∨ (0 < n ∧ b = 0) then (0, 0, 4)
    else if b < 128 then (((v + b.toNat % 128 * 128 ^ n : Nat) : Int), ((n + 1 : Nat) : Int), 0)
    else sh l (n + 1) (v + b.toNat % 128 * 128 ^ n)
theorem or_add (v x n : Nat) (h : v < 2 ^ n) : v ||| (x * 2 ^ n) = v + x * 2 ^ n := by
  rw [Nat.or_comm, Nat.mul_comm x, ← Nat.two_pow_add_eq_or_of_lt h, Nat.add_comm]
theorem shl64s {x n : Nat} (hn : n ≤ 64) (h : x * 2 ^ n < 18446744073709551616) : shl .u64 (x : Int) n = ((x * 2 ^ n : Nat) : Int) := by
  unfold shl
  rw [Int.toNat_natCast, show IntKind.u64.bits = 64 from rfl, Nat.min_eq_left hn, show ((x : Int) * 2 ^ n) = ((x * 2 ^ n : Nat) : Int) by simp, u64w_id (Int.natCast_nonneg _) (by omega)]
theorem sh_bound {c n v : Nat} (hn : n ≤ 9) (h9 : ¬ (n = 9 ∧ 1 < c % 128)) (hv : v < 128 ^ n) : v + c % 128 * 128 ^ n < 18446744073709551616 ∧ v + c % 128 * 128 ^ n < 128 ^ (n + 1) := by
  have h9' : n = 9 → c % 128 ≤ 1 := fun h => by omega
  clear h9
  rcases (show n = 0 ∨ n = 1 ∨ n = 2 ∨ n = 3 ∨ n = 4 ∨ n = 5 ∨ n = 6 ∨ n = 7 ∨ n = 8 ∨ n = 9 by omega) with rfl | rfl | rfl | rfl | rfl | rfl | rfl | rfl | rfl | rfl <;> simp only [Nat.reducePow, Nat.reduceAdd] at hv ⊢ <;> first | omega | (have := h9' rfl; omega)
theorem sh_or {c n v : Nat} (hn : n ≤ 9) (h9 : ¬ (n = 9 ∧ 1 < c % 128)) (hv : v < 128 ^ n) : Go.bits .or .u64 (v : Int) (shl .u64 ((c % 128 : Nat) : Int) (IntKind.u64.wrap ((7 * n : Nat) : Int))) = ((v + c % 128 * 128 ^ n : Nat) : Int) := by
  have hb := (sh_bound hn h9 hv).1
  have e : 128 ^ n = 2 ^ (7 * n) := by rw [Nat.pow_mul]
  rw [u64w_id (by omega) (by omega)]
  rw [e] at hb hv ⊢
  rw [shl64s (by omega) (Nat.lt_of_le_of_lt (Nat.le_add_left _ _) hb), bits_or_u64_nat _ _ (Nat.lt_of_le_of_lt (Nat.le_add_right _ _) hb) (Nat.lt_of_le_of_lt (Nat.le_add_left _ _) hb), or_add _ _ _ hv]
theorem and128 : ∀ c : Nat, c < 256 → (Go.bits .and .u8 (c : Int) 128 = 0 ↔ c < 128) := by decide +kernel
theorem and127' : ∀ c : Nat, c < 256 → Go.bits .and .u8 (c : Int) 127 = ((c % 128 : Nat) : Int) := by decide +kernel
theorem and127 {c : Nat} (h : c < 256) : IntKind.u64.wrap (Go.bits .and .u8 (c : Int) 127) = ((c % 128 : Nat) : Int) := by
  rw [and127' c h, u64w_id (by omega) (by omega)]
theorem shr9 {c : Nat} : (shr .u64 ((c % 128 : Nat) : Int) (IntKind.u64.wrap (wrap64 (64 - ((7 * 9 : Nat) : Int)))) != 0) = decide (1 < c % 128) := by
  have e : IntKind.u64.wrap (wrap64 (64 - ((7 * 9 : Nat) : Int))) = 1 := by rw [w64 (by omega) (by omega), u64w_id (by omega) (by omega)]; rfl
  rw [e]; unfold shr
  rw [show (2 : Int) ^ min (1 : Int).toNat IntKind.u64.bits = 2 by decide]
  by_cases h : 1 < c % 128
  · rw [decide_eq_true h, bne_iff_ne]; omega
  · rw [decide_eq_false h]; simp only [bne_eq_false_iff_eq]; omega
theorem short_at (L : List Int) (_ : L.length < 4611686018427387904) (k n v c : Nat) (h : n < L.length) (hc : L[n] = (c : Int)) (hc2 : c < 256) (hn : n ≤ 9) :
    num_short.l0 (k + 1) L v n ((7 * n : Nat) : Int) = num_short.j1 k L v ((n + 1 : Nat) : Int) ((7 * n : Nat) : Int) c ((c % 128 : Nat) : Int) (decide (n = 9 ∧ 1 < c % 128)) := by
  have hrd : rd L (n : Int) = (c : Int) := by rw [rd_get h, hc]
  simp only [num_short.l0]
  rw [if_neg (by omega), if_pos (by omega), if_pos (by omega), if_neg (by omega), hrd, and127 hc2, w64 (n := (n : Int) + 1) (by omega) (by omega), w64 (n := ((7 * n : Nat) : Int) + 7) (by omega) (by omega)]
  rw [show ((n : Int) + 1) = ((n + 1 : Nat) : Int) by omega]
  by_cases h9 : n = 9
  · subst h9
    rw [if_pos (by omega), if_pos (by rw [u64w]; omega), shr9]
    simp
  · rw [if_neg (by omega), decide_eq_false (by omega)]
theorem short_l0 (L : List Int) (hw : ∀ x ∈ L, 0 ≤ x ∧ x < 256) (hl : L.length < 4611686018427387904) : ∀ (d n v : Nat), L.length = n + d → n ≤ 10 → v < 128 ^ n → Ev (fun k => num_short.l0 k L v n ((7 * n : Nat) : Int)) (sh (L.drop n) n v) := by
  intro d
  induction d with
  | zero =>
    intro n v hd hn hv
    rw [List.drop_of_length_le (by omega)]
    exact Ev.step (f := fun _ => some (0, 0, 2)) (fun k => by simp only [num_short.l0]; rw [if_pos (by omega)]) (Ev.now _)
  | succ d ih =>
    intro n v hd hn hv
    have hlt : n < L.length := by omega
    obtain ⟨c, hc, hc2⟩ : ∃ c : Nat, L[n] = (c : Int) ∧ c < 256 := ⟨L[n].toNat, by have := hw _ (List.getElem_mem hlt); omega, by have := hw _ (List.getElem_mem hlt); omega⟩
    have hrd : rd L (n : Int) = (c : Int) := by rw [rd_get hlt, hc]
    rw [dropc L n hlt, hc]
    simp only [sh, Int.toNat_natCast]
    by_cases hN : 9 < n
    · rw [if_pos (.inl hN)]
      refine Ev.step (f := fun k => num_short.j1 k L v (wrap64 (n + 1)) ((7 * n : Nat) : Int) (rd L n) (IntKind.u64.wrap (Go.bits .and .u8 (rd L n) 127)) (decide ((7 * n : Nat) ≥ (64 : Int)))) (fun k => by simp only [num_short.l0]; rw [if_neg (by omega), if_pos (by omega), if_pos (by omega), if_pos (by omega)]) ?_
      refine Ev.step (f := fun _ => some (0, 0, 4)) (fun k => by simp only [num_short.j1]; rw [if_pos (decide_eq_true (by omega))]) (Ev.now _)
    · refine Ev.step (short_at L hl · n v c hlt hc hc2 (by omega)) ?_
      by_cases h9 : n = 9 ∧ 1 < c % 128
      · rw [if_pos (.inr (.inl h9)), decide_eq_true h9]
        exact Ev.step (f := fun _ => some (0, 0, 4)) (fun k => by simp only [num_short.j1]; rw [if_pos trivial]) (Ev.now _)
      · rw [decide_eq_false h9]
        refine Ev.step (f := fun k => num_short.j2 k L v ((n + 1 : Nat) : Int) ((7 * n : Nat) : Int) c ((c % 128 : Nat) : Int) (decide (0 < n ∧ c = 0))) (fun k => by
          simp only [num_short.j1]
          rw [if_neg (by decide)]
          by_cases h0 : c = 0
          · rw [if_pos (by omega)]; congr 1; exact decide_eq_decide.mpr (by omega)
          · rw [if_neg (by omega), decide_eq_false (by omega)]) ?_
        by_cases h0 : 0 < n ∧ c = 0
        · rw [if_pos (.inr (.inr ⟨h0.1, by omega⟩)), decide_eq_true h0]
          exact Ev.step (f := fun _ => some (0, 0, 4)) (fun k => by simp only [num_short.j2]; rw [if_pos trivial]) (Ev.now _)
        · rw [if_neg (by rintro (h | h | h); exact hN h; exact h9 h; exact h0 ⟨h.1, by omega⟩), decide_eq_false h0]
          have hor := sh_or (c := c) (n := n) (v := v) (by omega) h9 hv
          have hbd := sh_bound (c := c) (n := n) (v := v) (by omega) h9 hv
          have hu : IntKind.u64.wrap ((7 * n : Nat) : Int) = ((7 * n : Nat) : Int) := u64w_id (by omega) (by omega)
          generalize v + c % 128 * 128 ^ n = v2 at hor hbd ⊢
          by_cases h8 : c < 128
          · rw [if_pos (by omega)]
            exact Ev.step (f := fun _ => some ((v2 : Int), ((n + 1 : Nat) : Int), 0)) (fun k => by simp only [num_short.j2]; rw [if_neg (by decide), if_pos (by rw [hu]; exact Int.natCast_nonneg _), if_pos ((and128 c hc2).2 h8), hor]) (Ev.now _)
          · rw [if_neg (by omega)]
            refine Ev.step (f := fun k => num_short.l0 k L v2 ((n + 1 : Nat) : Int) ((7 * (n + 1) : Nat) : Int)) (fun k => by
              simp only [num_short.j2]
              rw [if_neg (by decide), if_pos (by rw [hu]; exact Int.natCast_nonneg _), if_neg (fun h => h8 ((and128 c hc2).1 h)), hor, w64 (by omega) (by omega)]
              rw [show ((7 * n : Nat) : Int) + 7 = ((7 * (n + 1) : Nat) : Int) by omega]) ?_
            exact ih (n + 1) v2 (by omega) (by omega) hbd.2
theorem short_f (L : List Int) (hw : ∀ x ∈ L, 0 ≤ x ∧ x < 256) (hl : L.length < 4611686018427387904) : Ev (fun k => num_short.f k L) (sh L 0 0) := by
  have := short_l0 L hw hl L.length 0 0 (by omega) (by omega) (by decide)
  rw [List.drop_zero] at this
  exact Ev.congr (fun k => by unfold num_short.f; rfl) this

/-! num.Zag, estreatref01.Zag -/
def zag (v : Nat) : Int := if v % 2 = 0 then ((v / 2 : Nat) : Int) else -((v / 2 : Nat) : Int) - 1
theorem xor_i64_zero (x : Nat) (hx : x < 9223372036854775808) : Go.bits .xor .i64 (x : Int) 0 = (x : Int) := by
  show IntKind.i64.wrap ((BitVec.ofInt 64 (x : Int) ^^^ BitVec.ofInt 64 0).toNat : Int) = _
  have h2 : (BitVec.ofInt 64 (x : Int)).toNat = x := by
    rw [BitVec.ofInt_natCast, BitVec.toNat_ofNat]; exact Nat.mod_eq_of_lt (by omega)
  rw [BitVec.toNat_xor, h2, show (BitVec.ofInt 64 0).toNat = 0 by decide, Nat.xor_zero, IntKind.wrap_i64]; omega
theorem xor_i64_ones (x : Nat) (hx : x < 9223372036854775808) : Go.bits .xor .i64 (x : Int) (-1) = -(x : Int) - 1 := by
  rw [← Lib.i64_not x hx]
  show IntKind.i64.wrap ((BitVec.ofInt 64 (x : Int) ^^^ BitVec.ofInt 64 (-1)).toNat : Int) = IntKind.i64.wrap ((BitVec.ofInt 64 (-1) ^^^ BitVec.ofInt 64 (x : Int)).toNat : Int)
  rw [BitVec.xor_comm]
theorem zag_f (v : Nat) (hv : v < 18446744073709551616) : num_Zag.f v = some (zag v) := by
  unfold num_Zag.f zag
  have h1 : wrap64 ((v : Int) / 2) = ((v / 2 : Nat) : Int) := by rw [w64 (by omega) (by omega)]; omega
  rw [h1, Lib.u64_and1 _ (by omega) (by omega)]
  by_cases h : v % 2 = 0
  · rw [if_pos h, show ((v : Int) % 2) = 0 by omega, w64 (n := 0) (by omega) (by omega), w64 (by omega) (by omega), Int.neg_zero, xor_i64_zero _ (by omega)]
  · rw [if_neg h, show ((v : Int) % 2) = 1 by omega, w64 (n := 1) (by omega) (by omega), w64 (by omega) (by omega), xor_i64_ones _ (by omega)]
theorem zag_range {v : Nat} (hv : v < 18446744073709551616) : -9223372036854775808 ≤ zag v ∧ zag v ≤ 9223372036854775807 := by
  unfold zag; split <;> omega

/-! what Var comes to -/
theorem sh_cases : ∀ (l : List Int) (n v : Nat), (∀ x ∈ l, 0 ≤ x ∧ x < 256) → n ≤ 10 → v < 128 ^ n →
    sh l n v = (0, 0, 2) ∨ sh l n v = (0, 0, 4) ∨ ∃ v' m : Nat, sh l n v = ((v' : Int), (m : Int), 0) ∧ n < m ∧ m ≤ n + l.length ∧ v' < 18446744073709551616 := by
  intro l
  induction l with
  | nil => intro n v _ _ _; exact .inl rfl
  | cons b l ih =>
    intro n v hw hn hv
    obtain ⟨c, rfl, hc2⟩ : ∃ c : Nat, b = (c : Int) ∧ c < 256 := ⟨b.toNat, by have := hw b (by simp); omega, by have := hw b (by simp); omega⟩
    simp only [sh, Int.toNat_natCast]
    by_cases hE : 9 < n ∨ (n = 9 ∧ 1 < c % 128) ∨ (0 < n ∧ (c : Int) = 0)
    · rw [if_pos hE]; exact .inr (.inl rfl)
    · rw [if_neg hE]
      have hbd := sh_bound (c := c) (n := n) (v := v) (by omega) (by omega) hv
      generalize v + c % 128 * 128 ^ n = v2 at hbd ⊢
      by_cases h8 : (c : Int) < 128
      · rw [if_pos h8]
        exact .inr (.inr ⟨v2, n + 1, rfl, by omega, by simp only [List.length_cons]; omega, hbd.1⟩)
      · rw [if_neg h8]
        rcases ih (n + 1) v2 (fun x hx => hw x (by simp [hx])) (by omega) hbd.2 with h | h | ⟨v', m, h1, h2, h3, h4⟩
        · exact .inl h
        · exact .inr (.inl h)
        · exact .inr (.inr ⟨v', m, h1, by omega, by simp only [List.length_cons]; omega, h4⟩)
theorem drop_bytes {L : List Int} (hw : ∀ x ∈ L, 0 ≤ x ∧ x < 256) (a : Nat) : ∀ x ∈ L.drop a, 0 ≤ x ∧ x < 256 := fun x hx => hw x (List.mem_of_mem_drop hx)

theorem nvar_ok {b : List Int} (hw : ∀ x ∈ b, 0 ≤ x ∧ x < 256) (hl : b.length < 4611686018427387904) {a v m : Nat} {on : Int} (ha : a ≤ b.length) (h : sh (b.drop a) 0 0 = ((v : Int), (m : Int), 0)) (hm : a + m ≤ b.length) :
    Ev (fun k => num_Reader_Var.f k b a 0 on) ((v : Int), ((a + m : Nat) : Int), 0, on) := by
  have hs := short_f (b.drop a) (drop_bytes hw a) (by rw [List.length_drop]; omega)
  rw [h] at hs
  refine Ev.congr (f := fun k => _) (fun k => by unfold num_Reader_Var.f; rw [if_neg (by simp), if_pos ⟨Int.natCast_nonneg _, by omega⟩, Int.toNat_natCast]) (Ev.bind hs ?_)
  refine ⟨0, fun k _ => ?_⟩
  simp only [num_Reader_Fail.f, num_Reader_Fail.next, Option.bind_some]
  rw [w64 (by omega) (by omega)]
  simp
theorem nvar_err {b : List Int} (hw : ∀ x ∈ b, 0 ≤ x ∧ x < 256) (hl : b.length < 4611686018427387904) {a : Nat} {on x : Int} (ha : a ≤ b.length) (hx : x = 2 ∨ x = 4) (h : sh (b.drop a) 0 0 = (0, 0, x)) :
    Ev (fun k => num_Reader_Var.f k b a 0 on) (0, (a : Int), x, (a : Int)) := by
  have hs := short_f (b.drop a) (drop_bytes hw a) (by rw [List.length_drop]; omega)
  rw [h] at hs
  refine Ev.congr (f := fun k => _) (fun k => by unfold num_Reader_Var.f; rw [if_neg (by simp), if_pos ⟨Int.natCast_nonneg _, by omega⟩, Int.toNat_natCast]) (Ev.bind hs ?_)
  refine ⟨0, fun k _ => ?_⟩
  rcases hx with rfl | rfl
  all_goals
    simp [num_Reader_Fail.f, num_Reader_Fail.next]
    rw [w64 (by omega) (by omega)]

/-! one byte taken as a number -/
theorem orM (t : Nat) {M : Int} (hM : M = ((2 ^ t : Nat) : Int)) (h c : Nat) {A : Int} (hA : A = ((h * 2 ^ (8 + t) : Nat) : Int)) (hc : c < 256) (hb : (h * 256 + c) * 2 ^ t < 18446744073709551616) :
    Go.bits .or .u64 A (IntKind.u64.wrap (IntKind.u64.wrap (c : Int) * M)) = (((h * 256 + c) * 2 ^ t : Nat) : Int) := by
  have e : (h * 256 + c) * 2 ^ t = h * 2 ^ (8 + t) + c * 2 ^ t := by rw [Nat.pow_add, Nat.add_mul, ← Nat.mul_assoc]
  have hlt : c * 2 ^ t < 2 ^ (8 + t) := by rw [Nat.pow_add]; exact Nat.mul_lt_mul_of_pos_right hc (Nat.two_pow_pos t)
  rw [e] at hb ⊢
  rw [hA, hM, u64w_id (n := (c : Int)) (by omega) (by omega), ← Int.natCast_mul, u64w_id (by exact Int.natCast_nonneg _) (Int.ofNat_lt.mpr (Nat.lt_of_le_of_lt (Nat.le_add_left _ _) hb)),
    bits_or_u64_nat _ _ (Nat.lt_of_le_of_lt (Nat.le_add_right _ _) hb) (Nat.lt_of_le_of_lt (Nat.le_add_left _ _) hb), Nat.mul_comm h, ← Nat.two_pow_add_eq_or_of_lt hlt]
theorem orL (h c : Nat) {A : Int} (hA : A = ((h * 256 : Nat) : Int)) (hc : c < 256) (hb : h * 256 + c < 18446744073709551616) :
    Go.bits .or .u64 A (IntKind.u64.wrap (c : Int)) = ((h * 256 + c : Nat) : Int) := by
  have := orM 0 (M := 1) (by rfl) h c (A := A) (by rw [hA, show 2 ^ (8 + 0) = 256 from rfl]) hc (by rw [Nat.pow_zero, Nat.mul_one]; exact hb)
  rw [Int.mul_one, u64w_id (n := IntKind.u64.wrap (c : Int)) (by rw [u64w]; omega) (by rw [u64w]; omega), Nat.pow_zero, Nat.mul_one] at this
  exact this
theorem fixg_1 (k : Nat) (b0 : Nat) (h0 : b0 < 256) {L : List Int} {a e on A E O : Int} (ht : num_Reader_Take.f L a e on 1 = some (([(b0 : Int)] : List Int), A, E, O)) : num_Reader_Fix.j0 (k + 1) 1 false L a e on = some ((((0) * 256 + b0 : Nat) : Int), A, E, O) := by
  simp only [num_Reader_Fix.j0]
  rw [if_neg (by decide), ht, Option.bind_some]
  rw [if_neg (by simp), if_neg (by simp), if_neg (by simp), if_neg (by simp), if_neg (by simp), if_neg (by simp), if_neg (by simp), if_pos (by simp), if_pos (by simp)]
  rw [show rd ([(b0 : Int)] : List Int) 0 = (b0 : Int) from rfl]
  rw [orL (0) b0 (by first | omega | (simp only [Nat.reducePow]; omega) | (simp only [Nat.reducePow]; done)) h0 (by omega)]

/-! estreatref08.Same -/
theorem same8_l0 (xs ys : List Int) (hl : xs.length = ys.length) (hb : xs.length < 9223372036854775807) : ∀ (d k i : Nat), xs.length = i + d → d < k → estreatref08_Same.l0 k xs ys i = some (decide (xs.drop i = ys.drop i)) := by
  intro d
  induction d with
  | zero =>
    intro k i hd hk
    obtain ⟨k, rfl⟩ : ∃ m, k = m + 1 := ⟨k - 1, by omega⟩
    simp only [estreatref08_Same.l0]; rw [if_neg (by omega), List.drop_of_length_le (by omega), List.drop_of_length_le (by omega)]; simp
  | succ d ih =>
    intro k i hd hk
    obtain ⟨k, rfl⟩ : ∃ m, k = m + 1 := ⟨k - 1, by omega⟩
    simp only [estreatref08_Same.l0]
    have := ih k (i + 1) (by omega) (by omega)
    simp only [Int.natCast_add, Int.natCast_one] at this
    rw [if_pos (by omega), if_pos (by omega), if_pos (by omega), rd_get (by omega), rd_get (by omega), w64 (by omega) (by omega), this]
    have ex : xs.drop i = xs[i] :: xs.drop (i + 1) := List.drop_eq_getElem_cons (by omega)
    have ey : ys.drop i = ys[i] :: ys.drop (i + 1) := List.drop_eq_getElem_cons (by omega)
    rw [ex, ey]
    by_cases h : xs[i] = ys[i]
    · rw [if_pos h, h]; simp only [List.cons.injEq, true_and]
    · rw [if_neg h, decide_eq_false]; simp only [List.cons.injEq, h, false_and, not_false_eq_true]
theorem same8_f (xs ys : List Int) (hb : xs.length < 9223372036854775807) : Ev (fun k => estreatref08_Same.f k xs ys) (decide (xs = ys)) := by
  refine ⟨xs.length + 1, fun k hk => ?_⟩
  show estreatref08_Same.f k xs ys = _
  unfold estreatref08_Same.f
  by_cases h : xs.length = ys.length
  · rw [if_pos (by omega)]
    have := same8_l0 xs ys h hb xs.length k 0 (by omega) hk
    simpa using this
  · rw [if_neg (by omega)]
    have : xs ≠ ys := fun e => h (by rw [e])
    simp [this]

/-! a short number that is put is read as it was; what is read is put as it was -/
theorem pow_split (w n : Nat) : w % 128 * 128 ^ n + w / 128 * 128 ^ (n + 1) = w * 128 ^ n := by
  have e : w / 128 * 128 ^ (n + 1) = 128 * (w / 128) * 128 ^ n := by rw [Nat.pow_succ]; ac_rfl
  rw [e, ← Nat.add_mul, Nat.mod_add_div]
theorem h9_of {w n : Nat} (hb : w * 128 ^ n < 18446744073709551616) : n = 9 → w ≤ 1 := by
  rintro rfl
  simp only [Nat.reducePow] at hb
  omega
theorem sh_leb (rest : List Int) : ∀ (w n v0 : Nat), n ≤ 9 → (0 < n → 0 < w) → w * 128 ^ n < 18446744073709551616 →
    sh (leb w ++ rest) n v0 = (((v0 + w * 128 ^ n : Nat) : Int), ((n + (leb w).length : Nat) : Int), 0) := by
  intro w
  induction w using Nat.strongRecOn with
  | _ w ih =>
  intro n v0 hn h0 hb
  have h9 := h9_of hb
  have e2 := pow_split w n
  have hb' : w / 128 * 128 ^ (n + 1) < 18446744073709551616 := Nat.lt_of_le_of_lt (by rw [← e2]; exact Nat.le_add_left _ _) hb
  clear hb
  by_cases hv : w < 128
  · clear ih hb' e2
    have hE : ¬ (9 < n ∨ (n = 9 ∧ 1 < w % 128) ∨ (0 < n ∧ (w : Int) = 0)) := by
      rintro (h | h | h)
      · omega
      · have := h9 h.1; omega
      · have := h0 h.1; omega
    rw [leb_small hv, List.singleton_append]
    simp only [sh, Int.toNat_natCast]
    rw [if_neg hE, if_pos (by omega), Nat.mod_eq_of_lt hv]
    rfl
  · have hn9 : n ≠ 9 := fun h => by have := h9 h; omega
    have hih := ih (w / 128) (by omega) (n + 1) (v0 + w % 128 * 128 ^ n) (by omega) (fun _ => by omega) hb'
    rw [Nat.add_assoc, e2] at hih
    clear ih hb' e2
    have hE : ¬ (9 < n ∨ (n = 9 ∧ 1 < (w % 128 + 128) % 128) ∨ (0 < n ∧ ((w % 128 + 128 : Nat) : Int) = 0)) := by omega
    have e : (w % 128 + 128) % 128 = w % 128 := by omega
    rw [leb_big hv, List.cons_append]
    simp only [sh, Int.toNat_natCast]
    rw [if_neg hE, if_neg (by omega), e, hih, List.length_cons, show n + 1 + (leb (w / 128)).length = n + ((leb (w / 128)).length + 1) by omega]
theorem sh_trunc : ∀ (w n v0 j : Nat), n ≤ 9 → (0 < n → 0 < w) → w * 128 ^ n < 18446744073709551616 → j < (leb w).length → sh ((leb w).take j) n v0 = (0, 0, 2) := by
  intro w
  induction w using Nat.strongRecOn with
  | _ w ih =>
  intro n v0 j hn h0 hb hj
  cases j with
  | zero => rfl
  | succ j =>
    have h9 := h9_of hb
    have e2 := pow_split w n
    have hb' : w / 128 * 128 ^ (n + 1) < 18446744073709551616 := Nat.lt_of_le_of_lt (by rw [← e2]; exact Nat.le_add_left _ _) hb
    clear hb e2
    by_cases hv : w < 128
    · rw [leb_small hv] at hj; simp at hj
    · have hn9 : n ≠ 9 := fun h => by have := h9 h; omega
      rw [leb_big hv, List.length_cons] at hj
      have hih := ih (w / 128) (by omega) (n + 1) (v0 + w % 128 * 128 ^ n) j (by omega) (fun _ => by omega) hb' (by omega)
      clear ih hb'
      have hE : ¬ (9 < n ∨ (n = 9 ∧ 1 < (w % 128 + 128) % 128) ∨ (0 < n ∧ ((w % 128 + 128 : Nat) : Int) = 0)) := by omega
      have e : (w % 128 + 128) % 128 = w % 128 := by omega
      rw [leb_big hv, List.take_succ_cons]
      simp only [sh, Int.toNat_natCast]
      rw [if_neg hE, if_neg (by omega), e, hih]
theorem leb_sh : ∀ (l : List Int) (n v0 v' m : Nat), (∀ x ∈ l, 0 ≤ x ∧ x < 256) → sh l n v0 = ((v' : Int), (m : Int), 0) →
    ∃ w, l = leb w ++ l.drop (m - n) ∧ v' = v0 + w * 128 ^ n ∧ n < m ∧ (0 < n → 0 < w) := by
  intro l
  induction l with
  | nil => intro n v0 v' m _ h; simp [sh] at h
  | cons b l ih =>
    intro n v0 v' m hw h
    obtain ⟨c, rfl, hc2⟩ : ∃ c : Nat, b = (c : Int) ∧ c < 256 := ⟨b.toNat, by have := hw b (by simp); omega, by have := hw b (by simp); omega⟩
    simp only [sh, Int.toNat_natCast] at h
    by_cases hE : 9 < n ∨ (n = 9 ∧ 1 < c % 128) ∨ (0 < n ∧ (c : Int) = 0)
    · rw [if_pos hE] at h; simp at h
    · rw [if_neg hE] at h
      by_cases h8 : (c : Int) < 128
      · rw [if_pos h8] at h
        simp only [Prod.mk.injEq, Int.natCast_inj, and_true] at h
        obtain ⟨h1, h2⟩ := h
        refine ⟨c, ?_, ?_, by omega, fun h => by omega⟩
        · rw [leb_small (by omega), show m - n = 1 by omega]; rfl
        · rw [← h1, Nat.mod_eq_of_lt (by omega)]
      · rw [if_neg h8] at h
        obtain ⟨w, h1, h2, h3, h4⟩ := ih (n + 1) _ v' m (fun x hx => hw x (by simp [hx])) h
        have hw0 := h4 (by omega)
        refine ⟨c % 128 + 128 * w, ?_, ?_, by omega, fun _ => by omega⟩
        · rw [leb_big (by omega), show (c % 128 + 128 * w) % 128 + 128 = c by omega, show (c % 128 + 128 * w) / 128 = w by omega, show m - n = (m - (n + 1)) + 1 by omega, List.drop_succ_cons, List.cons_append, ← h1]
        · rw [h2, Nat.add_mul, Nat.pow_succ, Nat.add_assoc]; congr 2; ac_rfl
theorem zag_zz {x : Int} (h0 : -9223372036854775808 ≤ x) (h1 : x ≤ 9223372036854775807) : zag (zz x).toNat = x := by
  unfold zag zz; split <;> split <;> omega
theorem zz_zag {v : Nat} : (zz (zag v)).toNat = v := by
  unfold zag zz; split <;> split <;> omega

/-! what is packed is unpacked, what is unpacked is packed -/
theorem nums_numN (w : Nat) : ∀ (L : List Int), (∀ x ∈ L, 0 ≤ x) → fitAll L w → nums_ w L.length (numN w L) = L := by
  intro L
  induction L with
  | nil => intro _ _; rfl
  | cons x L ih =>
    intro h0 hf
    have hx := hf x (by simp)
    have hx0 := h0 x (by simp)
    simp only [List.length_cons, nums_, numN]
    have e1 : (x.toNat + 2 ^ w * numN w L) % 2 ^ w = x.toNat := by rw [Nat.add_mul_mod_self_left, Nat.mod_eq_of_lt hx]
    have e2 : (x.toNat + 2 ^ w * numN w L) / 2 ^ w = numN w L := by rw [Nat.add_mul_div_left _ _ (Nat.two_pow_pos w), Nat.div_eq_of_lt hx, Nat.zero_add]
    rw [e1, e2, ih (fun y hy => h0 y (by simp [hy])) (fun y hy => hf y (by simp [hy])), Int.toNat_of_nonneg hx0]
theorem numN_nums (w : Nat) : ∀ (n B : Nat), B < 2 ^ (w * n) → numN w (nums_ w n B) = B := by
  intro n
  induction n with
  | zero => intro B h; simp at h; simp [nums_, numN, h]
  | succ n ih =>
    intro B h
    simp only [nums_, numN, Int.toNat_natCast]
    rw [ih (B / 2 ^ w) (by rw [Nat.div_lt_iff_lt_mul (Nat.two_pow_pos w), ← Nat.pow_add]; rw [Nat.mul_add, Nat.mul_one] at h; exact h), Nat.mod_add_div]
theorem nums_fit (w : Nat) : ∀ (n B : Nat), fitAll (nums_ w n B) w := by
  intro n
  induction n with
  | zero => intro B x hx; simp [nums_] at hx
  | succ n ih =>
    intro B x hx
    simp only [nums_, List.mem_cons] at hx
    rcases hx with rfl | hx
    · rw [Int.toNat_natCast]; exact Nat.mod_lt _ (Nat.two_pow_pos w)
    · exact ih _ x hx
theorem nums_u64 (w : Nat) (hw : w ≤ 64) (n B : Nat) : ∀ x ∈ nums_ w n B, 0 ≤ x ∧ x < 18446744073709551616 := by
  intro x hx
  have hf := nums_fit w n B x hx
  have h0 : 0 ≤ x := by
    clear hf
    induction n generalizing B with
    | zero => simp [nums_] at hx
    | succ n ih =>
      simp only [nums_, List.mem_cons] at hx
      rcases hx with rfl | hx
      · exact Int.natCast_nonneg _
      · exact ih _ hx
  refine ⟨h0, ?_⟩
  have h2 : x.toNat < 2 ^ 64 := Nat.lt_of_lt_of_le hf (Nat.pow_le_pow_right (by decide) hw)
  have h3 : x.toNat < 18446744073709551616 := Nat.lt_of_lt_of_eq h2 (by decide)
  clear hf h2
  omega
theorem unpack_pack (L : List Int) (w : Nat) (hw : w ≤ 64) (hn : L.length ≤ 200) (hL : ∀ x ∈ L, 0 ≤ x ∧ x < 18446744073709551616) (hf : fitAll L w) :
    (packed L w).2 = 0 ∧ Bytes (packed L w).1 ∧ ((packed L w).1.length : Int) = ((sizeN L.length w : Nat) : Int) ∧ unpacked (packed L w).1 L.length w = (L, 0) := by
  have oa : okSize (L.length : Int) (w : Int) := ⟨by omega, by omega, by omega, by omega⟩
  have hp : packed L w = (digs (sizeN L.length w) (numN w L), 0) := by unfold packed; rw [if_pos oa, Int.toNat_natCast, if_pos hf]
  rw [hp]
  refine ⟨rfl, digs_bytes _ _, by rw [digs_length], ?_⟩
  have hN := numN_lt w L hf
  have hN2 : numN w L < 256 ^ sizeN L.length w := by
    have : w * L.length ≤ 8 * sizeN L.length w := by unfold sizeN; rw [Nat.mul_comm w]; omega
    rw [show (256 : Nat) = 2 ^ 8 by decide, ← Nat.pow_mul]
    exact Nat.lt_of_lt_of_le hN (Nat.pow_le_pow_right (by decide) this)
  unfold unpacked
  simp only [if_pos oa, Int.toNat_natCast, digs_length, Nat.lt_irrefl, if_false, leN_digs _ _ hN2, if_pos hN]
  rw [nums_numN w L (fun x hx => (hL x hx).1) hf]
theorem pack_unpack (b : List Int) (n w : Int) (hb : Bytes b) (z : List Int) (h : unpacked b n w = (z, 0)) : (z.length : Int) = n ∧ (∀ x ∈ z, 0 ≤ x ∧ x < 18446744073709551616) ∧ packed z w = (b, 0) := by
  unfold unpacked at h
  by_cases ho : okSize n w
  · rw [if_pos ho] at h
    by_cases c1 : b.length < sizeN n.toNat w.toNat
    · rw [if_pos c1] at h; exact absurd (congrArg Prod.snd h) (by simp)
    rw [if_neg c1] at h
    by_cases c2 : sizeN n.toNat w.toNat < b.length
    · rw [if_pos c2] at h; exact absurd (congrArg Prod.snd h) (by simp)
    rw [if_neg c2] at h
    by_cases c3 : leN b < 2 ^ (w.toNat * n.toNat)
    · rw [if_pos c3] at h
      have hz : nums_ w.toNat n.toNat (leN b) = z := congrArg Prod.fst h
      obtain ⟨h1, h2, h3, h4⟩ := id ho
      have hl : z.length = n.toNat := by rw [← hz, nums_length]
      have hln : (z.length : Int) = n := by rw [hl, Int.toNat_of_nonneg h1]
      refine ⟨hln, ?_, ?_⟩
      · rw [← hz]; exact nums_u64 _ (by omega) _ _
      · unfold packed
        rw [hln, if_pos ho, ← hz, if_pos (nums_fit _ _ _), numN_nums _ _ _ c3, nums_length]
        have hs : sizeN n.toNat w.toNat = b.length := Nat.le_antisymm (Nat.le_of_not_lt c1) (Nat.le_of_not_lt c2)
        rw [hs, digs_leN b hb]
    · rw [if_neg c3] at h; exact absurd (congrArg Prod.snd h) (by simp)
  · rw [if_neg ho] at h; exact absurd (congrArg Prod.snd h) (by simp)

/-! a reader's ways: one byte, nothing, all that is left; what is unpacked -/
theorem unpacked_ok {b : List Int} {n w : Int} (h : (unpacked b n w).2 = 0) : ((unpacked b n w).1.length : Int) = n ∧ (∀ x ∈ (unpacked b n w).1, 0 ≤ x ∧ x < 18446744073709551616) ∧ 0 ≤ w ∧ w ≤ 64 := by
  unfold unpacked at h ⊢
  by_cases ho : okSize n w
  · rw [if_pos ho] at h ⊢
    split at h
    · simp at h
    · rename_i h1
      rw [if_neg h1]
      split at h
      · simp at h
      · rename_i h2
        rw [if_neg h2]
        split at h
        · rename_i h3
          rw [if_pos h3]
          obtain ⟨a1, a2, a3, a4⟩ := ho
          exact ⟨by rw [nums_length]; omega, nums_u64 _ (by omega) _ _, a3, a4⟩
        · simp at h
  · rw [if_neg ho] at h; simp at h
theorem nfix1_ok {b : List Int} (hw : ∀ x ∈ b, 0 ≤ x ∧ x < 256) (hl : b.length ≤ 140737488355328) {a : Nat} (ha : a < b.length) (on : Int) : Ev (fun k => num_Reader_Fix.f k b a 0 on 1) (b[a], ((a + 1 : Nat) : Int), 0, on) := by
  have hc := hw _ (List.getElem_mem ha)
  have ht : num_Reader_Take.f b (a : Int) 0 on 1 = some ([((b[a].toNat : Nat) : Int)], (a : Int) + 1, 0, on) := by
    unfold num_Reader_Take.f
    rw [if_pos ⟨by omega, by omega, by omega⟩, if_neg (by simp), if_neg (by omega), if_neg (by omega), Int.toNat_natCast, dropc b a ha, show ((b[a].toNat : Nat) : Int) = b[a] by omega]
    rfl
  refine Ev.congr (f := fun k => num_Reader_Fix.j0 k 1 false b (a : Int) 0 on) (fun k => by unfold num_Reader_Fix.f; rw [if_neg (by omega), decide_eq_false (by omega)]) ⟨1, fun k hk => ?_⟩
  obtain ⟨k, rfl⟩ : ∃ m, k = m + 1 := ⟨k - 1, by omega⟩
  refine (fixg_1 k _ (by omega) ht).trans ?_
  rw [show (((0) * 256 + b[a].toNat : Nat) : Int) = b[a] by omega, show ((a : Int) + 1) = ((a + 1 : Nat) : Int) by omega]
theorem nfix1_none {b : List Int} {x e on A E O : Int} (ht : num_Reader_Take.f b x e on 1 = some ([], A, E, O)) : Ev (fun k => num_Reader_Fix.f k b x e on 1) (0, A, E, O) := by
  refine Ev.congr (f := fun k => num_Reader_Fix.j0 k 1 false b x e on) (fun k => by unfold num_Reader_Fix.f; rw [if_neg (by omega), decide_eq_false (by omega)]) ⟨1, fun k hk => ?_⟩
  obtain ⟨k, rfl⟩ : ∃ m, k = m + 1 := ⟨k - 1, by omega⟩
  simp only [num_Reader_Fix.j0]
  rw [if_neg (by decide), ht, Option.bind_some]
  simp
theorem ntake_none {b : List Int} (hl : b.length ≤ 140737488355328) {a : Nat} (ha : a ≤ b.length) {x y : Int} (hx : x ≠ 0) : num_Reader_Take.f b (a : Int) x y 1 = some ([], (a : Int), x, y) := by
  unfold num_Reader_Take.f; rw [if_pos ⟨by omega, by omega, by omega⟩, if_pos hx]
theorem ntake_end {b : List Int} (hl : b.length ≤ 140737488355328) (y : Int) : num_Reader_Take.f b (b.length : Int) 0 y 1 = some ([], (b.length : Int), 2, (b.length : Int)) := by
  unfold num_Reader_Take.f; rw [if_pos ⟨by omega, by omega, by omega⟩, if_neg (by simp), if_neg (by omega), if_pos (by omega)]
theorem ntake_all {b : List Int} (hl : b.length ≤ 140737488355328) {a : Nat} (ha : a ≤ b.length) (on : Int) : num_Reader_Take.f b (a : Int) 0 on ((b.length - a : Nat) : Int) = some (b.drop a, (b.length : Int), 0, on) := by
  unfold num_Reader_Take.f
  rw [if_pos ⟨by omega, by omega, by omega⟩, if_neg (by simp), if_neg (by omega), if_neg (by omega), Int.toNat_natCast, Int.toNat_natCast, List.take_of_length_le (by rw [List.length_drop]; exact Nat.le_refl _), show (a : Int) + ((b.length - a : Nat) : Int) = (b.length : Int) by omega]
theorem nleft {b : List Int} (hl : b.length ≤ 140737488355328) {a : Nat} (ha : a ≤ b.length) : wrap64 ((b.length : Int) - a) = ((b.length - a : Nat) : Int) := by rw [w64 (by omega) (by omega)]; omega

/-! delta.Get -/
def zags (l : List Int) : List Int := l.map (fun x => zag x.toNat)
def restv (b : List Int) (a : Nat) (n : Int) : List Int × Int :=
  if h : a < b.length then
    (if b[a] > 64 then ([], 5)
    else if (unpacked (b.drop (a + 1)) n b[a]).2 = 0 then (if (maxW (unpacked (b.drop (a + 1)) n b[a]).1 : Int) = b[a] then (zags (unpacked (b.drop (a + 1)) n b[a]).1, 0) else ([], 4))
    else ([], (unpacked (b.drop (a + 1)) n b[a]).2))
  else ([], 2)
def deltav (b : List Int) (n : Int) : List Int × Int :=
  if n < 0 ∨ n > 65536 then ([], 1)
  else if n = 0 then (if 0 < b.length then ([], 3) else ([], 0))
  else if (sh b 0 0).2.2 = 0 then
    (if n = 1 then (if (sh b 0 0).2.1.toNat < b.length then ([], 3) else (sums 0 [zag (sh b 0 0).1.toNat], 0))
    else if (restv b (sh b 0 0).2.1.toNat (n - 1)).2 = 0 then (sums 0 (zag (sh b 0 0).1.toNat :: (restv b (sh b 0 0).2.1.toNat (n - 1)).1), 0)
    else ([], (restv b (sh b 0 0).2.1.toNat (n - 1)).2))
  else ([], (sh b 0 0).2.2)
theorem rest_l0 (d : List Int) (hn : d.length ≤ 65536) (hd : ∀ x ∈ d, 0 ≤ x ∧ x < 18446744073709551616) (b : List Int) (x y z : Int) : ∀ (c i : Nat), d.length = i + c → Ev (fun k => delta_rest.l0 k (zags (d.take i)) d d.length i b x y z) (zags d, 0, x, y, z) := by
  intro c
  induction c with
  | zero =>
    intro i hi
    rw [List.take_of_length_le (by omega)]
    exact Ev.step (f := fun _ => some (zags d, 0, x, y, z)) (fun k => by simp only [delta_rest.l0]; rw [if_neg (by omega)]) (Ev.now _)
  | succ c ih =>
    intro i hi
    have hlt : i < d.length := by omega
    have hx := hd _ (List.getElem_mem hlt)
    have hz : num_Zag.f d[i] = some (zag d[i].toNat) := by have := zag_f d[i].toNat (by omega); rwa [Int.toNat_of_nonneg hx.1] at this
    refine Ev.step (fun k => ?_) (ih (i + 1) (by omega))
    simp only [delta_rest.l0]
    rw [if_pos (by omega), if_pos (by omega), if_pos (by omega), rd_get hlt, hz, Option.bind_some, if_pos (by simp [zags]; omega), w64 (n := (i : Int) + 1) (by omega) (by omega), List.take_succ_eq_append_getElem hlt, zags, zags, List.map_append]
    rfl
theorem rest_f {b : List Int} (hw : ∀ x ∈ b, 0 ≤ x ∧ x < 256) (hl : b.length ≤ 140737488355328) {a : Nat} (ha : a ≤ b.length) (on n : Int) (h1 : 1 ≤ n) (h2 : n ≤ 65536) :
    ∃ A E O, Ev (fun k => delta_rest.f k b a 0 on n) ((restv b a n).1, (restv b a n).2, A, E, O) ∧ ((restv b a n).2 = 0 → A = (b.length : Int) ∧ E = 0 ∧ O = on) := by
  unfold restv
  by_cases hm : a < b.length
  · have hc := hw _ (List.getElem_mem hm)
    have hwc : wrap64 b[a] = b[a] := w64 (by omega) (by omega)
    rw [dif_pos hm]
    by_cases h64 : b[a] > 64
    · rw [if_pos h64]
      refine ⟨((a + 1 : Nat) : Int), 0, on, ?_, fun h => by simp at h⟩
      unfold delta_rest.f
      refine Ev.bind (nfix1_ok hw hl hm on) ?_
      simp only [num_Reader_Err.f, Option.bind_some, if_true, hwc, if_pos h64]
      exact Ev.now _
    · rw [if_neg h64]
      have hev : ∀ r, Ev (fun k => (bits_Unpack.f k (b.drop (a + 1)) n b[a]).bind fun bt252 => (if bt252.2 = 0 then ((bits_Width.f k bt252.1).bind fun t256 => (if t256 = b[a] then (delta_rest.l0 k ([] : List Int) bt252.1 (bt252.1.length : Int) 0 b (b.length : Int) 0 on) else (some (([] : List Int), 4, (b.length : Int), 0, on)))) else (some (([] : List Int), bt252.2, (b.length : Int), 0, on)))) r → Ev (fun k => delta_rest.f k b a 0 on n) r := by
        intro r hr
        unfold delta_rest.f
        refine Ev.bind (nfix1_ok hw hl hm on) ?_
        simp only [num_Reader_Err.f, num_Reader_Left.f, Option.bind_some, if_true, hwc, if_neg h64, nleft hl (show a + 1 ≤ b.length by omega), ntake_all hl (show a + 1 ≤ b.length by omega)]
        exact hr
      have hu := unpack_f (b.drop (a + 1)) (drop_bytes hw _) n b[a]
      by_cases h0 : (unpacked (b.drop (a + 1)) n b[a]).2 = 0
      · obtain ⟨u1, u2, u3, u4⟩ := unpacked_ok h0
        rw [if_pos h0]
        by_cases hW : (maxW (unpacked (b.drop (a + 1)) n b[a]).1 : Int) = b[a]
        · rw [if_pos hW]
          refine ⟨(b.length : Int), 0, on, hev _ (Ev.bind hu ?_), fun _ => ⟨rfl, rfl, rfl⟩⟩
          simp only [if_pos h0]
          refine Ev.bind (width_evd _ (by omega) u2) ?_
          simp only [if_pos hW]
          exact rest_l0 _ (by omega) u2 b _ _ _ _ 0 (Nat.zero_add _).symm
        · rw [if_neg hW]
          refine ⟨(b.length : Int), 0, on, hev _ (Ev.bind hu ?_), fun h => by simp at h⟩
          simp only [if_pos h0]
          refine Ev.bind (width_evd _ (by omega) u2) ?_
          simp only [if_neg hW]
          exact Ev.now _
      · rw [if_neg h0]
        refine ⟨(b.length : Int), 0, on, hev _ (Ev.bind hu ?_), fun h => absurd h h0⟩
        simp only [if_neg h0]
        exact Ev.now _
  · obtain rfl : a = b.length := by omega
    rw [dif_neg hm]
    refine ⟨(b.length : Int), 2, (b.length : Int), ?_, fun h => by simp at h⟩
    unfold delta_rest.f
    refine Ev.bind (nfix1_none (ntake_end hl on)) ?_
    simp only [num_Reader_Err.f, Option.bind_some]
    exact Ev.now _
theorem restv_len {b : List Int} {a : Nat} {n : Int} (h1 : 0 ≤ n) : ((restv b a n).1.length : Int) ≤ n := by
  unfold restv
  by_cases hm : a < b.length
  · rw [dif_pos hm]
    split
    · simpa using h1
    · split
      · rename_i h0
        obtain ⟨u1, _⟩ := unpacked_ok h0
        split
        · simp only [zags, List.length_map]; omega
        · simpa using h1
      · simpa using h1
  · rw [dif_neg hm]; simpa using h1
theorem delta_j2 {b : List Int} (hl : b.length ≤ 140737488355328) {a : Nat} (ha : a ≤ b.length) (on : Int) (l : List Int) (hn : l.length ≤ 65536) : Ev (fun k => delta_Get.j2 k l b a 0 on) (if a < b.length then ([], 3) else (sums 0 l, 0)) := by
  by_cases h : a < b.length
  · rw [if_pos h]
    refine Ev.step (f := fun _ => some ([], 3)) (fun k => ?_) (Ev.now _)
    simp only [delta_Get.j2, num_Reader_End.f, nleft hl ha]
    rw [if_pos ⟨trivial, by omega⟩, Option.bind_some, if_neg (by simp)]
  · rw [if_neg h]
    refine Ev.step (f := fun k => _) (fun k => by
      simp only [delta_Get.j2, num_Reader_End.f, nleft hl ha]
      rw [if_neg (by omega), Option.bind_some, if_pos rfl]) ?_
    exact Ev.bind (sums_f l hn) (Ev.now _)
theorem deltaget_f {b : List Int} (hw : ∀ x ∈ b, 0 ≤ x ∧ x < 256) (hl3 : b.length ≤ 1000000) (n : Int) : Ev (fun k => delta_Get.f k b n) (deltav b n) := by
  have hl2 : b.length < 4611686018427387904 := by omega
  have hl4 : b.length ≤ 140737488355328 := by omega
  have hnr : num_NewReader.f b = some (b, 0, 0, 0) := by unfold num_NewReader.f; rw [if_pos (by omega)]
  unfold deltav
  by_cases h0 : n < 0
  · rw [if_pos (.inl h0)]
    unfold delta_Get.f; simp only [if_pos h0]
    exact Ev.step (f := fun _ => some ([], 1)) (fun k => by simp only [delta_Get.j0]; rw [if_pos trivial]) (Ev.now _)
  by_cases h1 : n > 65536
  · rw [if_pos (.inr h1)]
    unfold delta_Get.f; simp only [if_neg h0, decide_eq_true h1]
    exact Ev.step (f := fun _ => some ([], 1)) (fun k => by simp only [delta_Get.j0]; rw [if_pos trivial]) (Ev.now _)
  rw [if_neg (by rintro (h | h); exact h0 h; exact h1 h)]
  unfold delta_Get.f
  simp only [if_neg h0, decide_eq_false h1]
  have one : ∀ (l : List Int) (x e on : Int) r, Ev (fun k => if e = 0 then (if n > 1 then ((delta_rest.f k b x e on (wrap64 (n - 1))).bind fun bt280 => (if bt280.2.1 = 0 then (if l.length + bt280.1.length < 17592186044416 then (delta_Get.j2 k (l ++ bt280.1) b bt280.2.2.1 bt280.2.2.2.1 bt280.2.2.2.2) else (none)) else (some (([] : List Int), bt280.2.1)))) else (delta_Get.j2 k l b x e on)) else (some (([] : List Int), e))) r → Ev (fun k => delta_Get.j1 k n l b x e on) r := by
    intro l x e on r hr
    refine Ev.step (fun k => ?_) hr
    simp only [delta_Get.j1, num_Reader_Err.f, Option.bind_some]
  by_cases hn0 : n = 0
  · subst hn0
    rw [if_pos rfl]
    refine Ev.step (f := fun k => delta_Get.j1 k 0 [] b 0 0 0) (fun k => by simp only [delta_Get.j0]; rw [if_neg (by decide), hnr, Option.bind_some, if_neg (by decide)]) ?_
    refine one _ _ _ _ _ ?_
    simp only [if_true, if_neg (show ¬ (0 : Int) > 1 by decide)]
    exact delta_j2 hl4 (Nat.zero_le _) 0 [] (Nat.zero_le _)
  rw [if_neg hn0]
  refine Ev.step (f := fun k => (num_Reader_Var.f k b 0 0 0).bind fun bt267 => ((num_Zag.f bt267.1).bind fun t271 => delta_Get.j1 k n [t271] b bt267.2.1 bt267.2.2.1 bt267.2.2.2)) (fun k => by
    simp only [delta_Get.j0]
    rw [if_neg (by decide), hnr, Option.bind_some, if_pos (by omega)]
    simp only [if_pos (show ([] : List Int).length < 17592186044416 by decide), List.nil_append]) ?_
  have z1 := zag_f 0 (by decide)
  rw [Int.natCast_zero] at z1
  have herr : ∀ x : Int, x = 2 ∨ x = 4 → sh (b.drop 0) 0 0 = (0, 0, x) → Ev (fun k => (num_Reader_Var.f k b 0 0 0).bind fun bt267 => ((num_Zag.f bt267.1).bind fun t271 => delta_Get.j1 k n [t271] b bt267.2.1 bt267.2.2.1 bt267.2.2.2)) ([], x) := by
    intro x hx hs
    have hx0 : x ≠ 0 := by omega
    refine Ev.bind (nvar_err hw hl2 (Nat.zero_le _) hx hs) ?_
    refine Ev.bind (a := zag 0) ⟨0, fun k _ => z1⟩ ?_
    refine one _ _ _ _ _ ?_
    simp only [if_neg hx0]
    exact Ev.now _
  rcases sh_cases (b.drop 0) 0 0 (drop_bytes hw 0) (by omega) (by decide) with h | h | ⟨v, m, h, g1, g2, hv⟩
  · have e := herr 2 (.inl rfl) h
    rw [List.drop_zero] at h
    rw [h, if_neg (by decide)]
    exact e
  · have e := herr 4 (.inr rfl) h
    rw [List.drop_zero] at h
    rw [h, if_neg (by decide)]
    exact e
  · have ok1 := nvar_ok (on := 0) hw hl2 (Nat.zero_le _) h (by rw [List.drop_zero] at g2; omega)
    rw [List.drop_zero, Nat.zero_add] at g2
    rw [List.drop_zero] at h
    rw [Nat.zero_add] at ok1
    refine Ev.bind ok1 ?_
    refine Ev.bind (a := zag v) ⟨0, fun k _ => zag_f v hv⟩ ?_
    rw [h]
    simp only [Int.toNat_natCast, if_true]
    refine one _ _ _ _ _ ?_
    simp only [if_true]
    by_cases hn1 : n = 1
    · subst hn1
      rw [if_pos rfl]
      simp only [if_neg (show ¬ (1 : Int) > 1 by decide)]
      exact delta_j2 hl4 g2 0 _ (by simp)
    · rw [if_neg hn1]
      have hgt : n > 1 := by omega
      simp only [if_pos hgt]
      rw [w64 (n := n - 1) (by omega) (by omega)]
      obtain ⟨A, E, O, r1, r2⟩ := rest_f hw hl4 g2 0 (n - 1) (by omega) (by omega)
      refine Ev.bind r1 ?_
      by_cases hr : (restv b m (n - 1)).2 = 0
      · obtain ⟨rfl, rfl, rfl⟩ := r2 hr
        have hlen := restv_len (b := b) (a := m) (n := n - 1) (by omega)
        simp only [if_pos hr]
        have hlt : ([zag v] : List Int).length + (restv b m (n - 1)).1.length < 17592186044416 := by simp only [List.length_singleton]; omega
        simp only [if_pos hlt]
        have := delta_j2 hl4 (Nat.le_refl b.length) 0 (zag v :: (restv b m (n - 1)).1)
        have := this (by simp only [List.length_cons]; omega)
        rw [if_neg (Nat.lt_irrefl _)] at this
        exact this
      · simp only [if_neg hr]
        exact Ev.now _

theorem leb_bytes : ∀ (w : Nat), ∀ x ∈ leb w, 0 ≤ x ∧ x < 256 := by
  intro w
  induction w using Nat.strongRecOn with
  | _ w ih =>
  intro x hx
  by_cases hv : w < 128
  · rw [leb_small hv] at hx; simp at hx; omega
  · rw [leb_big hv] at hx
    rcases List.mem_cons.1 hx with rfl | hx
    · omega
    · exact ih (w / 128) (by omega) x hx

theorem sums_steps : ∀ (l : List Int) (a : Int), I64 a → (∀ x ∈ l, I64 x) → sums a (steps a l) = l := by
  intro l
  induction l with
  | nil => intro a _ _; rfl
  | cons x l ih =>
    intro a ha h
    have hx := h x (by simp)
    have e : wrap64 (a + wrap64 (x - a)) = x := by unfold I64 at ha hx; unfold wrap64; omega
    rw [steps, sums, e, ih x hx (fun y hy => h y (by simp [hy]))]
theorem steps_sums : ∀ (l : List Int) (a : Int), I64 a → (∀ x ∈ l, I64 x) → steps a (sums a l) = l := by
  intro l
  induction l with
  | nil => intro a _ _; rfl
  | cons x l ih =>
    intro a ha h
    have hx := h x (by simp)
    have e : wrap64 (wrap64 (a + x) - a) = x := by unfold I64 at ha hx; unfold wrap64; omega
    rw [sums, steps, e, ih _ (wrap_i64 _) (fun y hy => h y (by simp [hy]))]
theorem sums_i64 : ∀ (l : List Int) (a : Int), ∀ x ∈ sums a l, I64 x := by
  intro l
  induction l with
  | nil => intro a x hx; cases hx
  | cons y l ih =>
    intro a x hx
    rw [sums] at hx
    rcases List.mem_cons.1 hx with rfl | hx
    · exact wrap_i64 _
    · exact ih _ x hx
theorem zags_zz : ∀ (s : List Int), (∀ x ∈ s, I64 x) → zags (s.map zz) = s := by
  intro s
  induction s with
  | nil => intro _; rfl
  | cons x s ih =>
    intro h
    have hx := h x (by simp)
    show zag (zz x).toNat :: zags (s.map zz) = _
    rw [zag_zz hx.1 hx.2, ih (fun y hy => h y (by simp [hy]))]
theorem zz_zags : ∀ (d : List Int), (∀ x ∈ d, 0 ≤ x ∧ x < 18446744073709551616) → (zags d).map zz = d := by
  intro d
  induction d with
  | nil => intro _; rfl
  | cons x d ih =>
    intro h
    have hx := h x (by simp)
    have hv := zag_range (v := x.toNat) (by omega)
    have hz := zz_range hv.1 hv.2
    have e : zz (zag x.toNat) = x := by have := zz_zag (v := x.toNat); omega
    show zz (zag x.toNat) :: (zags d).map zz = _
    rw [e, ih (fun y hy => h y (by simp [hy]))]
theorem zags_i64 (d : List Int) (h : ∀ x ∈ d, 0 ≤ x ∧ x < 18446744073709551616) : ∀ x ∈ zags d, I64 x := by
  intro x hx
  obtain ⟨y, hy, rfl⟩ := List.mem_map.1 hx
  exact zag_range (by have := h y hy; omega)
theorem i64_0 : I64 0 := by unfold I64; omega
theorem restv_put (p d : List Int) (hn : d.length ≤ 200) (hd : ∀ x ∈ d, 0 ≤ x ∧ x < 18446744073709551616) : restv (p ++ ((maxW d : Int) :: (packed d (maxW d)).1)) p.length d.length = (zags d, 0) := by
  have h64 := maxW_64 _ hd
  obtain ⟨_, _, _, hu⟩ := unpack_pack d (maxW d) h64 hn hd ((maxW_fit _ _ h64 hd).1 (Nat.le_refl _))
  have hlt : p.length < (p ++ ((maxW d : Int) :: (packed d (maxW d)).1)).length := by simp
  have hget : (p ++ ((maxW d : Int) :: (packed d (maxW d)).1))[p.length]'hlt = (maxW d : Int) := by simp
  have hdrop : (p ++ ((maxW d : Int) :: (packed d (maxW d)).1)).drop (p.length + 1) = (packed d (maxW d)).1 := by
    rw [← List.drop_drop, List.drop_left]; rfl
  unfold restv
  rw [dif_pos hlt, hget, if_neg (by omega), hdrop, hu, if_pos rfl, if_pos rfl]
theorem delta_get_form (v : Nat) (hv : v < 18446744073709551616) (d : List Int) (hd0 : 0 < d.length) (hn : d.length ≤ 199) (hd : ∀ x ∈ d, 0 ≤ x ∧ x < 18446744073709551616) (n : Int) (hN : n = (d.length : Int) + 1) :
    deltav (leb v ++ ((maxW d : Int) :: (packed d (maxW d)).1)) n = (sums 0 (zag v :: zags d), 0) := by
  have hs := sh_leb ((maxW d : Int) :: (packed d (maxW d)).1) v 0 0 (by omega) (fun h => by omega) (by rw [Nat.pow_zero]; omega)
  rw [Nat.pow_zero, Nat.mul_one, Nat.zero_add, Nat.zero_add] at hs
  have hr := restv_put (leb v) d (by omega) hd
  have e : n - 1 = (d.length : Int) := by omega
  unfold deltav
  rw [if_neg (by omega), if_neg (by omega), hs, if_pos rfl, if_neg (by omega), e]
  simp only [Int.toNat_natCast]
  rw [hr, if_pos rfl]
theorem deltaForm_two (z y : Int) (r : List Int) : deltaForm (z :: y :: r) = leb z.toNat ++ ((maxW (y :: r) : Int) :: (packed (y :: r) (maxW (y :: r))).1) := by
  rw [deltaForm, List.append_assoc, List.singleton_append]
theorem delta_get_put (l : List Int) (hn : l.length ≤ 200) (hl : ∀ x ∈ l, I64 x) : deltav (deltaOf l) l.length = (l, 0) := by
  have hss := sums_steps l 0 i64_0 hl
  have hsl := steps_length l 0
  have hsi := steps_i64 l 0
  unfold deltaOf
  generalize steps 0 l = s at hss hsl hsi
  subst hss
  rw [sums_length] at hn ⊢
  match s, hn, hsi with
  | [], _, _ =>
    have e : (([] : List Int).length : Int) = 0 := rfl
    show deltav [] (([] : List Int).length : Int) = _
    unfold deltav
    rw [e, if_neg (by omega), if_pos rfl, if_neg (by decide)]; rfl
  | [a], hn, hsi =>
    have ha := hsi a (by simp)
    have hz := zz_range ha.1 ha.2
    have hs := sh_leb [] (zz a).toNat 0 0 (by omega) (fun h => by omega) (by rw [Nat.pow_zero]; omega)
    rw [Nat.pow_zero, Nat.mul_one, Nat.zero_add, Nat.zero_add, List.append_nil] at hs
    have e : (([a] : List Int).length : Int) = 1 := rfl
    have ef : deltaForm ([a].map zz) = leb (zz a).toNat := rfl
    rw [ef]
    unfold deltav
    rw [e, if_neg (by omega), if_neg (by omega), hs, if_pos rfl, if_pos rfl, Int.toNat_natCast, if_neg (Nat.lt_irrefl _), Int.toNat_natCast, zag_zz ha.1 ha.2]
  | a :: y :: r, hn, hsi =>
    have ha := hsi a (by simp)
    have hz := zz_range ha.1 ha.2
    have hzu := zz_u64 (y :: r) (fun x hx => hsi x (List.mem_cons_of_mem _ hx))
    have hzz := zags_zz (y :: r) (fun x hx => hsi x (List.mem_cons_of_mem _ hx))
    have hl : ((y :: r).map zz).length = r.length + 1 := by rw [List.length_map, List.length_cons]
    have hn' : r.length + 2 ≤ 200 := hn
    have ef : deltaForm ((a :: y :: r).map zz) = leb (zz a).toNat ++ ((maxW ((y :: r).map zz) : Int) :: (packed ((y :: r).map zz) (maxW ((y :: r).map zz))).1) := by
      rw [List.map_cons, List.map_cons, deltaForm_two]
    have := delta_get_form (zz a).toNat (by omega) ((y :: r).map zz) (by omega) (by omega) hzu ((a :: y :: r).length : Int) (by rw [hl]; simp only [List.length_cons]; omega)
    rw [ef, this, hzz, zag_zz ha.1 ha.2]
theorem delta_put_get {b : List Int} (hw : ∀ x ∈ b, 0 ≤ x ∧ x < 256) {n : Int} {z : List Int} (h : deltav b n = (z, 0)) :
    deltaOf z = b ∧ z.length ≤ 65536 ∧ ∀ x ∈ z, I64 x := by
  unfold deltav at h
  by_cases h0 : n < 0 ∨ n > 65536
  · rw [if_pos h0] at h; simp at h
  rw [if_neg h0] at h
  by_cases hn0 : n = 0
  · rw [if_pos hn0] at h
    by_cases hb : 0 < b.length
    · rw [if_pos hb] at h; simp at h
    · rw [if_neg hb] at h
      simp only [Prod.mk.injEq, and_true] at h
      have e : b = [] := List.eq_nil_of_length_eq_zero (by omega)
      subst h e
      exact ⟨rfl, Nat.zero_le _, fun x hx => by cases hx⟩
  rw [if_neg hn0] at h
  rcases sh_cases b 0 0 hw (by omega) (by decide) with hs | hs | ⟨v, m, hs, g1, g2, hv⟩
  · rw [hs] at h; simp at h
  · rw [hs] at h; simp at h
  · rw [hs] at h
    simp only [Int.toNat_natCast, if_true] at h
    rw [Nat.zero_add] at g2
    obtain ⟨w, f1, f2, _, _⟩ := leb_sh b 0 0 v m hw hs
    rw [Nat.pow_zero, Nat.mul_one, Nat.zero_add] at f2
    rw [Nat.sub_zero] at f1
    subst f2
    have hzr := zag_range hv
    have hfin : ∀ d : List Int, (∀ x ∈ d, 0 ≤ x ∧ x < 18446744073709551616) → z = sums 0 (zag v :: zags d) → deltaOf z = deltaForm ((v : Int) :: d) ∧ z.length = d.length + 1 ∧ ∀ x ∈ z, I64 x := by
      rintro d hd rfl
      have hall : ∀ x ∈ zag v :: zags d, I64 x := by
        intro x hx
        rcases List.mem_cons.1 hx with rfl | hx
        · exact hzr
        · exact zags_i64 d hd x hx
      refine ⟨?_, by rw [sums_length]; simp [zags], sums_i64 _ _⟩
      have e : zz (zag v) = (v : Int) := by
        have := zz_zag (v := v)
        have := (zz_range hzr.1 hzr.2).1
        omega
      unfold deltaOf
      rw [steps_sums _ 0 i64_0 hall, List.map_cons, zz_zags d hd, e]
    by_cases hn1 : n = 1
    · rw [if_pos hn1] at h
      by_cases hm : m < b.length
      · rw [if_pos hm] at h; simp at h
      · rw [if_neg hm] at h
        simp only [Prod.mk.injEq, and_true] at h
        obtain ⟨p1, p2, p3⟩ := hfin [] (fun x hx => by cases hx) h.symm
        refine ⟨?_, by rw [p2]; decide, p3⟩
        rw [p1, deltaForm, Int.toNat_natCast]
        rw [List.drop_of_length_le (by omega), List.append_nil] at f1
        exact f1.symm
    · rw [if_neg hn1] at h
      by_cases hr : (restv b m (n - 1)).2 = 0
      · rw [if_pos hr] at h
        simp only [Prod.mk.injEq, and_true] at h
        unfold restv at h hr
        by_cases hm : m < b.length
        · rw [dif_pos hm] at h hr
          by_cases h64 : b[m] > 64
          · rw [if_pos h64] at hr; simp at hr
          · rw [if_neg h64] at h hr
            by_cases hu : (unpacked (b.drop (m + 1)) (n - 1) b[m]).2 = 0
            · rw [if_pos hu] at h hr
              by_cases hW : (maxW (unpacked (b.drop (m + 1)) (n - 1) b[m]).1 : Int) = b[m]
              · rw [if_pos hW] at h
                obtain ⟨u1, u2, u3⟩ := pack_unpack (b.drop (m + 1)) (n - 1) b[m] (drop_bytes hw _) (unpacked (b.drop (m + 1)) (n - 1) b[m]).1 (by rw [← hu])
                generalize (unpacked (b.drop (m + 1)) (n - 1) b[m]).1 = d at *
                obtain ⟨p1, p2, p3⟩ := hfin d u2 h.symm
                refine ⟨?_, by omega, p3⟩
                rw [p1]
                have hd0 : d ≠ [] := by
                  rintro rfl
                  rw [List.length_nil] at u1
                  omega
                obtain ⟨y, r, rfl⟩ := List.exists_cons_of_ne_nil hd0
                rw [deltaForm, hW, u3, Int.toNat_natCast, List.append_assoc]
                conv => rhs; rw [f1, dropc b m hm]
                rfl
              · rw [if_neg hW] at hr; simp at hr
            · rw [if_neg hu] at hr; exact absurd hr hu
        · rw [dif_neg hm] at hr; simp at hr
      · rw [if_neg hr] at h
        simp only [Prod.mk.injEq] at h
        exact absurd h.2 hr
theorem delta_bytes (l : List Int) (hn : l.length ≤ 200) : ∀ x ∈ deltaOf l, 0 ≤ x ∧ x < 256 := by
  have hz := zz_u64 _ (steps_i64 l 0)
  have hl : ((steps 0 l).map zz).length ≤ 200 := by rw [List.length_map, steps_length]; exact hn
  unfold deltaOf
  generalize (steps 0 l).map zz = s at *
  match s, hz, hl with
  | [], _, _ => intro x hx; cases hx
  | [a], _, _ => exact leb_bytes _
  | a :: y :: r, hz, hl =>
    have hd : ∀ x ∈ y :: r, 0 ≤ x ∧ x < 18446744073709551616 := fun x hx => hz x (List.mem_cons_of_mem _ hx)
    have h64 := maxW_64 _ hd
    obtain ⟨_, hb, _, _⟩ := unpack_pack (y :: r) (maxW (y :: r)) h64 (by simp only [List.length_cons] at hl ⊢; omega) hd ((maxW_fit _ _ h64 hd).1 (Nat.le_refl _))
    intro x hx
    rw [deltaForm] at hx
    rcases List.mem_append.1 hx with hx | hx
    · rcases List.mem_append.1 hx with hx | hx
      · exact leb_bytes _ x hx
      · simp at hx; omega
    · exact hb x hx
theorem DeltaBack : estreatlaw10_DeltaBack.Pure := by
  intro l b n hm hs hw hm2 hs2 hw2 _
  have hl' : ∀ x ∈ l, I64 x := fun x hx => wf_i64 (hw x hx)
  have hb' : ∀ x ∈ b, 0 ≤ x ∧ x < 256 := fun x hx => wf_u8 (hw2 x hx)
  refine Ev.rounds ?_
  unfold estreatlaw10_DeltaBack.f
  have hout : Ev (fun k => estreatlaw10_DeltaBack.j0 k l b n true) true := by
    refine Ev.step (f := fun k => _) (fun k => by simp only [estreatlaw10_DeltaBack.j0]; rw [if_pos trivial]) ?_
    exact Ev.bind deltaawake (Ev.now _)
  have hin : l.length ≤ 200 → b.length ≤ 500 → Ev (fun k => estreatlaw10_DeltaBack.j0 k l b n false) true := by
    intro hl hb
    have hfl := deltaForm_length ((steps 0 l).map zz) (by rw [List.length_map, steps_length]; omega) (zz_u64 _ (steps_i64 l 0))
    rw [List.length_map, steps_length] at hfl
    refine Ev.step (f := fun k => _) (fun k => by simp only [estreatlaw10_DeltaBack.j0]; rw [if_neg (by decide)]) ?_
    refine Ev.bind (deltaput_f l (by omega)) ?_
    have e0 := deltaget_f (b := deltaOf l) (delta_bytes l hl) (by unfold deltaOf; omega) (l.length : Int)
    rw [delta_get_put l hl hl'] at e0
    refine Ev.bind e0 ?_
    refine Ev.bind (same8_f _ _ (show l.length < 9223372036854775807 by omega)) ?_
    simp only [decide_true, if_true]
    refine Ev.bind (steps_f l (by omega)) ?_
    refine Ev.bind (sums_f _ (by rw [steps_length]; omega)) ?_
    rw [sums_steps l 0 i64_0 hl']
    refine Ev.bind (same8_f _ _ (show l.length < 9223372036854775807 by omega)) ?_
    simp only [decide_true, if_true]
    refine Ev.bind (sums_f l (by omega)) ?_
    refine Ev.bind (steps_f _ (by rw [sums_length]; omega)) ?_
    rw [steps_sums l 0 i64_0 hl']
    refine Ev.bind (same8_f _ _ (show l.length < 9223372036854775807 by omega)) ?_
    simp only [decide_true, Bool.not_true]
    refine Ev.step (f := fun k => _) (fun k => by simp only [estreatlaw10_DeltaBack.j1]; rw [if_neg (by decide)]) ?_
    refine Ev.bind (deltaget_f hb' (by omega) n) ?_
    by_cases h : (deltav b n).2 = 0
    · obtain ⟨p1, p2, p3⟩ := delta_put_get hb' (n := n) (z := (deltav b n).1) (by rw [← h])
      simp only [if_pos h]
      have hp := deltaput_f (deltav b n).1 p2
      rw [p1] at hp
      refine Ev.bind hp ?_
      simp only [if_true]
      refine Ev.bind (a := true) ⟨b.length + 1, fun k hk => by
        have := same_f b b (by omega) k (by omega)
        simpa using this⟩ ?_
      simp only [if_true]
      exact Ev.bind deltaawake (Ev.now _)
    · simp only [if_neg h]
      exact Ev.bind deltaawake (Ev.now _)
  by_cases c : (l.length : Int) > 200
  · simp only [if_pos c]; exact hout
  · simp only [if_neg c]
    by_cases c1 : (b.length : Int) > 500
    · simp only [if_pos c1]; exact hout
    · simp only [if_neg c1]
      by_cases c2 : n > 1000
      · simp only [if_pos c2]
        by_cases c3 : n ≤ 65536
        · rw [decide_eq_true c3]; exact hout
        · rw [decide_eq_false c3]; exact hin (by omega) (by omega)
      · simp only [if_neg c2]; exact hin (by omega) (by omega)

end Go.Proofs.YtieddojplhmhgaaDoor.Pure
