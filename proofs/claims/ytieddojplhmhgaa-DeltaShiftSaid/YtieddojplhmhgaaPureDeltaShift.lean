/- What estreatlaw10.DeltaShift computes is true for any numbers and shift. -/
import Derived.Test.YtieddojplhmhgaaPDeltaShiftx4
import Derived.Lib.Zigzag
import Derived.Lib.BitFns
namespace Go.Proofs.Ytieddojplhmhgaa.Pure
open Go.RowKit Go.Proofs.Ytieddojplhmhgaa.PDeltaShift Go.Proofs.YtieddojplhmhgaaW.PrintWords Go.Proofs.YtieddojplhmhgaaW.PrintLast Go.Proofs.YtieddojplhmhgaaW.PrintMore

/-! words of this session: plain facts on numbers and lists -/
theorem w64 {n : Int} (h0 : -9223372036854775808 ≤ n) (h1 : n ≤ 9223372036854775807) : wrap64 n = n := by unfold wrap64; omega
theorem u64w (n : Int) : IntKind.u64.wrap n = n % 18446744073709551616 := by simp [IntKind.wrap, IntKind.bits, IntKind.signed]
theorem u64w_id {n : Int} (h0 : 0 ≤ n) (h1 : n < 18446744073709551616) : IntKind.u64.wrap n = n := by rw [u64w]; omega
theorem rd_nat (xs : List Int) (i : Nat) : rd xs (i : Int) = xs.getD i 0 := by simp [rd]
theorem rd_get {xs : List Int} {i : Nat} (h : i < xs.length) : rd xs (i : Int) = xs[i] := by simp [rd, h]
theorem wf_i64 {x : Int} (h : (Lit.int .i64 x).wf = true) : -9223372036854775808 ≤ x ∧ x ≤ 9223372036854775807 := by
  simp [Lit.wf, IntKind.min, IntKind.max, IntKind.signed, IntKind.bits] at h; omega
theorem wf_u64 {x : Int} (h : (Lit.int .u64 x).wf = true) : 0 ≤ x ∧ x < 18446744073709551616 := by
  simp [Lit.wf, IntKind.min, IntKind.max, IntKind.signed, IntKind.bits] at h; omega
theorem wf_u8 {x : Int} (h : (Lit.int .u8 x).wf = true) : 0 ≤ x ∧ x < 256 := by
  simp [Lit.wf, IntKind.min, IntKind.max, IntKind.signed, IntKind.bits] at h; omega
theorem dropc {α : Type} (l : List α) (i : Nat) (h : i < l.length) : l.drop i = l[i] :: l.drop (i + 1) := List.drop_eq_getElem_cons h

/-! estreatref01.Same: are two lists one? -/
theorem same_l0 (xs ys : List Int) (hl : xs.length = ys.length) (hb : xs.length < 9223372036854775807) : ∀ (d k i : Nat), xs.length = i + d → d < k → estreatref01_Same.l0 k xs ys i = some (decide (xs.drop i = ys.drop i)) := by
  intro d
  induction d with
  | zero =>
    intro k i hd hk
    obtain ⟨k, rfl⟩ : ∃ m, k = m + 1 := ⟨k - 1, by omega⟩
    simp only [estreatref01_Same.l0]; rw [if_neg (by omega), List.drop_of_length_le (by omega), List.drop_of_length_le (by omega)]; simp
  | succ d ih =>
    intro k i hd hk
    obtain ⟨k, rfl⟩ : ∃ m, k = m + 1 := ⟨k - 1, by omega⟩
    simp only [estreatref01_Same.l0]
    have := ih k (i + 1) (by omega) (by omega)
    simp only [Int.natCast_add, Int.natCast_one] at this
    rw [if_pos (by omega), if_pos (by omega), if_pos (by omega), rd_get (by omega), rd_get (by omega), w64 (by omega) (by omega), this]
    have ex : xs.drop i = xs[i] :: xs.drop (i + 1) := List.drop_eq_getElem_cons (by omega)
    have ey : ys.drop i = ys[i] :: ys.drop (i + 1) := List.drop_eq_getElem_cons (by omega)
    rw [ex, ey]
    by_cases h : xs[i] = ys[i]
    · rw [if_pos h, h]; simp only [List.cons.injEq, true_and]
    · rw [if_neg h, decide_eq_false]; simp only [List.cons.injEq, h, false_and, not_false_eq_true]
theorem same_f (xs ys : List Int) (hb : xs.length < 9223372036854775807) : ∀ k, xs.length < k → estreatref01_Same.f k xs ys = some (decide (xs = ys)) := by
  intro k hk
  unfold estreatref01_Same.f
  by_cases h : xs.length = ys.length
  · rw [if_pos (by omega)]
    have := same_l0 xs ys h hb xs.length k 0 (by omega) hk
    simpa using this
  · rw [if_neg (by omega)]
    have : xs ≠ ys := fun e => h (by rw [e])
    simp [this]

/-! the short number of a number, and what puts it -/
def leb (v : Nat) : List Int := if h : v < 128 then [(v : Int)] else ((v % 128 + 128 : Nat) : Int) :: leb (v / 128)
theorem leb_small {v : Nat} (h : v < 128) : leb v = [(v : Int)] := by rw [leb, dif_pos h]
theorem leb_big {v : Nat} (h : ¬ v < 128) : leb v = ((v % 128 + 128 : Nat) : Int) :: leb (v / 128) := by rw [leb, dif_neg h]
theorem leb_length : ∀ (n v : Nat), v < 128 ^ (n + 1) → (leb v).length ≤ n + 1 := by
  intro n
  induction n with
  | zero => intro v h; rw [leb_small (by simpa using h)]; simp
  | succ n ih =>
    intro v h
    by_cases hv : v < 128
    · rw [leb_small hv]; simp
    · rw [leb_big hv, List.length_cons]
      have := ih (v / 128) (by rw [Nat.div_lt_iff_lt_mul (by decide)]; rw [Nat.pow_succ] at h; omega)
      omega
theorem p128 : (18446744073709551616 : Nat) < 128 ^ (9 + 1) := by decide
theorem leb_length10 {v : Nat} (h : v < 18446744073709551616) : (leb v).length ≤ 10 := leb_length 9 v (Nat.lt_trans h p128)

theorem putvar_l0 : ∀ (n k v : Nat) (b : List Int), v < 128 ^ (n + 1) → n < k → b.length + n < 140737488355328 → num_PutVar.l0 k b v = some (b ++ leb v) := by
  intro n
  induction n with
  | zero =>
    intro k v b hv hk hb
    obtain ⟨k, rfl⟩ : ∃ m, k = m + 1 := ⟨k - 1, by omega⟩
    simp only [num_PutVar.l0]
    rw [if_neg (by omega), if_pos (by omega), leb_small (by omega)]
    rw [Int.emod_eq_of_lt (by omega) (by omega)]
  | succ n ih =>
    intro k v b hv hk hb
    obtain ⟨k, rfl⟩ : ∃ m, k = m + 1 := ⟨k - 1, by omega⟩
    simp only [num_PutVar.l0]
    by_cases h : v < 128
    · rw [if_neg (by omega), if_pos (by omega), leb_small h, Int.emod_eq_of_lt (by omega) (by omega)]
    · rw [if_pos (by omega), if_pos (by omega), Lib.u8_or128_any _ (by omega) (by omega), leb_big h]
      have e : (v : Int) / 128 = ((v / 128 : Nat) : Int) := by omega
      rw [e, ih k (v / 128) _ (by rw [Nat.div_lt_iff_lt_mul (by decide)]; rw [Nat.pow_succ] at hv; omega) (by omega) (by simp; omega)]
      have e2 : (v : Int) % 256 % 128 + 128 = ((v % 128 + 128 : Nat) : Int) := by omega
      rw [e2]; simp
theorem putvar_f {v : Int} {b : List Int} {k : Nat} (h0 : 0 ≤ v) (h1 : v < 18446744073709551616) (hk : 10 ≤ k) (hb : b.length < 140737488000000) : num_PutVar.f k b v = some (b ++ leb v.toNat) := by
  obtain ⟨n, rfl⟩ := Int.eq_ofNat_of_zero_le h0
  unfold num_PutVar.f
  exact putvar_l0 9 k n b (Nat.lt_trans (by omega) p128) (by omega) (by omega)

theorem refvar_f : ∀ (n k v : Nat), v < 128 ^ (n + 1) → v < 18446744073709551616 → n < 100 → n < k → estreatref01_Var.f k v = some (leb v) := by
  intro n
  induction n with
  | zero =>
    intro k v hv h64 hn hk
    obtain ⟨k, rfl⟩ : ∃ m, k = m + 1 := ⟨k - 1, by omega⟩
    simp only [estreatref01_Var.f]
    rw [if_pos (by omega), leb_small (by omega), Int.emod_eq_of_lt (by omega) (by omega)]
  | succ n ih =>
    intro k v hv h64 hn hk
    obtain ⟨k, rfl⟩ : ∃ m, k = m + 1 := ⟨k - 1, by omega⟩
    simp only [estreatref01_Var.f]
    by_cases h : v < 128
    · rw [if_pos (by omega), leb_small h, Int.emod_eq_of_lt (by omega) (by omega)]
    · rw [if_neg (by omega), leb_big h]
      have hp : v / 128 < 128 ^ (n + 1) := by rw [Nat.div_lt_iff_lt_mul (by decide)]; rw [Nat.pow_succ] at hv; omega
      have e : IntKind.u64.wrap (Int.tdiv (v : Int) 128) = ((v / 128 : Nat) : Int) := by
        rw [Int.tdiv_eq_ediv_of_nonneg (by omega), u64w_id (by omega) (by omega)]; omega
      have e2 : IntKind.u64.wrap (128 + Int.tmod (v : Int) 128) % 256 = ((v % 128 + 128 : Nat) : Int) := by
        rw [Int.tmod_eq_emod_of_nonneg (by omega), u64w_id (by omega) (by omega)]; omega
      have hl := leb_length n (v / 128) hp
      rw [e, e2, ih k (v / 128) hp (by omega) (by omega) (by omega)]
      simp only [Option.bind_some]
      rw [if_pos (by simp; omega)]; simp
theorem refvar {v : Int} {k : Nat} (h0 : 0 ≤ v) (h1 : v < 18446744073709551616) (hk : 10 ≤ k) : estreatref01_Var.f k v = some (leb v.toNat) := by
  obtain ⟨n, rfl⟩ := Int.eq_ofNat_of_zero_le h0
  exact refvar_f 9 k n (Nat.lt_trans (by omega) p128) (by omega) (by omega) (by omega)

/-! num.Zig -/
def zz (x : Int) : Int := if 0 ≤ x then 2 * x else -2 * x - 1
theorem zz_range {x : Int} (h0 : -9223372036854775808 ≤ x) (h1 : x ≤ 9223372036854775807) : 0 ≤ zz x ∧ zz x < 18446744073709551616 := by
  unfold zz; split <;> omega
theorem zig_f {x : Int} (h0 : -9223372036854775808 ≤ x) (h1 : x ≤ 9223372036854775807) : num_Zig.f x = some (zz x) := by
  unfold num_Zig.f zz
  by_cases h : 0 ≤ x
  · rw [if_pos h]
    have e1 : IntKind.u64.wrap (IntKind.u64.wrap x * 2) = (((2 * x).toNat : Nat) : Int) := by rw [u64w, u64w]; omega
    have e2 : IntKind.u64.wrap (x / 9223372036854775808) = ((0 : Nat) : Int) := by rw [u64w]; omega
    rw [e1, e2, bits_xor_u64_nat _ _ (by omega) (by omega), Nat.xor_zero]
    congr 1; omega
  · rw [if_neg h]
    have e1 : IntKind.u64.wrap (IntKind.u64.wrap x * 2) = (((2 * x + 18446744073709551616).toNat : Nat) : Int) := by rw [u64w, u64w]; omega
    have e2 : IntKind.u64.wrap (x / 9223372036854775808) = ((2 ^ 64 - 1 : Nat) : Int) := by rw [u64w]; omega
    rw [e1, e2, bits_xor_u64_nat _ _ (by omega) (by decide), Nat.xor_comm, Lib.xor_ones64 _ (by omega)]
    congr 1; omega

theorem refzig_f {x : Int} (h0 : -9223372036854775808 ≤ x) (h1 : x ≤ 9223372036854775807) : estreatref01_Zig.f x = some (zz x) := by
  unfold estreatref01_Zig.f zz
  by_cases h : 0 ≤ x
  · rw [if_pos h, if_pos h, u64w, u64w]; congr 1; omega
  · rw [if_neg h, if_neg h, u64w, u64w, u64w]; unfold wrap64; congr 1; omega

/-! bytes as one number, and back -/
def leN : List Int → Nat
  | [] => 0
  | x :: xs => x.toNat + 256 * leN xs
def digs : Nat → Nat → List Int
  | 0, _ => []
  | s + 1, N => ((N % 256 : Nat) : Int) :: digs s (N / 256)
def Bytes (xs : List Int) : Prop := ∀ x ∈ xs, 0 ≤ x ∧ x < 256
theorem digs_length : ∀ s N, (digs s N).length = s := by
  intro s; induction s with
  | zero => intro N; rfl
  | succ s ih => intro N; simp [digs, ih]
theorem digs_leN : ∀ (xs : List Int), Bytes xs → digs xs.length (leN xs) = xs := by
  intro xs; induction xs with
  | nil => intro _; rfl
  | cons x xs ih =>
    intro h
    have hx := h x (by simp)
    have := ih (fun y hy => h y (by simp [hy]))
    simp only [List.length_cons, digs, leN]
    have e1 : (x.toNat + 256 * leN xs) % 256 = x.toNat := by omega
    have e2 : (x.toNat + 256 * leN xs) / 256 = leN xs := by omega
    rw [e1, e2, this, Int.toNat_of_nonneg hx.1]
theorem leN_digs : ∀ s N, N < 256 ^ s → leN (digs s N) = N := by
  intro s; induction s with
  | zero => intro N h; simp at h; simp [digs, leN, h]
  | succ s ih =>
    intro N h
    simp only [digs, leN]
    rw [ih (N / 256) (by rw [Nat.div_lt_iff_lt_mul (by decide)]; rw [Nat.pow_succ] at h; exact h)]
    omega
theorem digs_bytes : ∀ s N, Bytes (digs s N) := by
  intro s; induction s with
  | zero => intro N x hx; simp [digs] at hx
  | succ s ih =>
    intro N x hx
    simp only [digs, List.mem_cons] at hx
    rcases hx with rfl | hx
    · omega
    · exact ih _ x hx
theorem leN_set : ∀ (xs : List Int) (q : Nat) (v d : Int) (h : q < xs.length), 0 ≤ xs[q] → 0 ≤ d → v = xs[q] + d → leN (xs.set q v) = leN xs + 256 ^ q * d.toNat := by
  intro xs; induction xs with
  | nil => intro q v d h; simp at h
  | cons x xs ih =>
    intro q v d h h0 hd hv
    cases q with
    | zero =>
      simp only [List.getElem_cons_zero] at h0 hv
      simp only [List.set_cons_zero, leN, Nat.pow_zero, Nat.one_mul]; omega
    | succ q =>
      simp only [List.getElem_cons_succ] at h0 hv
      have := ih q v d (by simpa using h) h0 hd hv
      simp only [List.set_cons_succ, leN, this, Nat.pow_succ, Nat.mul_add]
      have : 256 * (256 ^ q * d.toNat) = 256 ^ q * 256 * d.toNat := by rw [Nat.mul_comm (256 ^ q) 256, Nat.mul_assoc]
      omega
theorem leN_lt : ∀ (xs : List Int), Bytes xs → leN xs < 256 ^ xs.length := by
  intro xs; induction xs with
  | nil => intro _; simp [leN]
  | cons x xs ih =>
    intro h
    have hx := h x (by simp)
    have := ih (fun y hy => h y (by simp [hy]))
    simp only [leN, List.length_cons, Nat.pow_succ]; omega
theorem leN_at : ∀ (xs : List Int) (q : Nat) (h : q < xs.length), Bytes xs → (xs[q]).toNat = leN xs / 256 ^ q % 256 := by
  intro xs; induction xs with
  | nil => intro q h; simp at h
  | cons x xs ih =>
    intro q h hb
    have hx := hb x (by simp)
    cases q with
    | zero => simp only [List.getElem_cons_zero, leN, Nat.pow_zero, Nat.div_one]; omega
    | succ q =>
      have := ih q (by simpa using h) (fun y hy => hb y (by simp [hy]))
      simp only [List.getElem_cons_succ, leN, this, Nat.pow_succ]
      rw [Nat.mul_comm (256 ^ q) 256, ← Nat.div_div_eq_div_mul]
      have e : (x.toNat + 256 * leN xs) / 256 = leN xs := by omega
      rw [e]
theorem leN_zeros : ∀ n, leN (List.replicate n 0) = 0 := by
  intro n; induction n with
  | zero => rfl
  | succ n ih => simp [List.replicate_succ, leN, ih]
/-- numbers of w bits each as one number -/
def numN (w : Nat) : List Int → Nat
  | [] => 0
  | x :: xs => x.toNat + 2 ^ w * numN w xs
theorem numN_append (w : Nat) : ∀ (xs ys : List Int), numN w (xs ++ ys) = numN w xs + 2 ^ (w * xs.length) * numN w ys := by
  intro xs; induction xs with
  | nil => intro ys; simp [numN]
  | cons x xs ih =>
    intro ys
    simp only [List.cons_append, numN, ih, List.length_cons, Nat.mul_add, Nat.mul_one, Nat.pow_add]
    have : 2 ^ w * (2 ^ (w * xs.length) * numN w ys) = 2 ^ (w * xs.length) * 2 ^ w * numN w ys := by rw [Nat.mul_comm (2 ^ (w * xs.length)) (2 ^ w), Nat.mul_assoc]
    omega
theorem numN_lt (w : Nat) : ∀ (xs : List Int), (∀ x ∈ xs, x.toNat < 2 ^ w) → numN w xs < 2 ^ (w * xs.length) := by
  intro xs; induction xs with
  | nil => intro _; simp [numN]
  | cons x xs ih =>
    intro h
    have hx := h x (by simp)
    have := ih (fun y hy => h y (by simp [hy]))
    simp only [numN, List.length_cons, Nat.mul_add, Nat.mul_one, Nat.pow_add]
    have : 2 ^ w * (numN w xs + 1) ≤ 2 ^ w * 2 ^ (w * xs.length) := Nat.mul_le_mul_left _ (by omega)
    rw [Nat.mul_add, Nat.mul_one, Nat.mul_comm (2 ^ w) (2 ^ (w * xs.length))] at this
    omega

/-! bits.Size, fits, Pack -/
def sizeN (n w : Nat) : Nat := (n * w + 7) / 8
def okSize (n w : Int) : Prop := 0 ≤ n ∧ n ≤ 65536 ∧ 0 ≤ w ∧ w ≤ 64
instance (n w : Int) : Decidable (okSize n w) := inferInstanceAs (Decidable (_ ∧ _))
theorem mul_le_64 {n w : Int} (h : okSize n w) : 0 ≤ n * w ∧ n * w ≤ 65536 * 64 :=
  ⟨Int.mul_nonneg h.1 h.2.2.1, Int.le_trans (Int.mul_le_mul_of_nonneg_right h.2.1 h.2.2.1) (Int.mul_le_mul_of_nonneg_left h.2.2.2 (by decide))⟩
theorem size_f (n w : Int) : bits_Size.f n w = some (if okSize n w then ((sizeN n.toNat w.toNat : Nat) : Int) else -1) := by
  unfold bits_Size.f
  by_cases h : okSize n w
  · have hm := mul_le_64 h
    have hh := h
    obtain ⟨h1, h2, h3, h4⟩ := hh
    rw [if_neg (by omega), if_neg (by omega), if_neg (by omega), if_neg (by omega), if_pos h, w64 (n := n * w) (by omega) (by omega), w64 (n := n * w + 7) (by omega) (by omega), Int.tdiv_eq_ediv_of_nonneg (by omega), w64 (by omega) (by omega)]
    have e : n * w = ((n.toNat * w.toNat : Nat) : Int) := by
      rw [Int.natCast_mul, Int.toNat_of_nonneg h1, Int.toNat_of_nonneg h3]
    unfold sizeN; rw [e]; congr 1
  · rw [if_neg h]
    unfold okSize at h
    by_cases c1 : n < 0
    · rw [if_pos c1]
    rw [if_neg c1]
    by_cases c2 : n > 65536
    · rw [if_pos c2]
    rw [if_neg c2]
    by_cases c3 : w < 0
    · rw [if_pos c3]
    rw [if_neg c3]
    by_cases c4 : w > 64
    · rw [if_pos c4]
    exact absurd ⟨by omega, by omega, by omega, by omega⟩ h
theorem shr64 {x : Int} {n : Nat} (h0 : 0 ≤ x) (h1 : x < 18446744073709551616) : shr .u64 x n = ((x.toNat / 2 ^ n : Nat) : Int) := by
  obtain ⟨a, rfl⟩ := Int.eq_ofNat_of_zero_le h0
  have ha : a < 2 ^ 64 := by omega
  unfold shr
  have hb : IntKind.u64.bits = 64 := rfl
  rw [hb]
  show (a : Int) / 2 ^ min (n : Int).toNat 64 = _
  rw [Int.toNat_natCast]
  by_cases h : n ≤ 64
  · rw [Nat.min_eq_left h]; simp
  · rw [Nat.min_eq_right (by omega)]
    have h64 : (2 : Nat) ^ 64 ≤ 2 ^ n := Nat.pow_le_pow_right (by decide) (by omega)
    have e1 : a / 2 ^ n = 0 := Nat.div_eq_of_lt (by omega)
    have e2 : a / 2 ^ 64 = 0 := Nat.div_eq_of_lt ha
    have : ((a / 2 ^ 64 : Nat) : Int) = (a : Int) / 2 ^ 64 := by simp
    rw [Int.toNat_natCast, e1, ← this, e2]
theorem fits_f {v w : Int} (h0 : 0 ≤ v) (h1 : v < 18446744073709551616) (hw0 : 0 ≤ w) (hw : w ≤ 64) : bits_fits.f v w = some (decide (v.toNat < 2 ^ w.toNat)) := by
  obtain ⟨n, rfl⟩ := Int.eq_ofNat_of_zero_le hw0
  unfold bits_fits.f
  by_cases c : (n : Int) = 64
  · rw [if_pos c]
    have : n = 64 := by omega
    subst this
    rw [decide_eq_true]; simp; omega
  · rw [if_neg c, u64w_id (by omega) (by omega), if_pos (by omega), shr64 h0 h1]
    congr 1
    rw [Int.toNat_natCast, Bool.eq_iff_iff]
    simp only [beq_iff_eq, decide_eq_true_eq]
    constructor
    · intro h
      have h2 : v.toNat / 2 ^ n = 0 := by omega
      rcases Nat.div_eq_zero_iff.1 h2 with h3 | h3
      · exact absurd h3 (Nat.ne_of_gt (Nat.two_pow_pos n))
      · exact h3
    · intro h
      rw [Nat.div_eq_of_lt h]; rfl
theorem pow8 (q r : Nat) : 2 ^ (8 * q + r) = 256 ^ q * 2 ^ r := by rw [Nat.pow_add, Nat.pow_mul]
theorem pack_step (S v q r take : Nat) (hr : r < 8) (ht : take ≤ 8 - r) (hc : take = 8 - r ∨ v < 2 ^ take) :
    S + 256 ^ q * (v * 2 ^ r % 256) + (v / 2 ^ take) * 2 ^ (8 * q + r + take) = S + v * 2 ^ (8 * q + r) := by
  rw [show 8 * q + r + take = 8 * q + (r + take) by omega, pow8, pow8]
  have key : v * 2 ^ r % 256 + (v / 2 ^ take) * 2 ^ (r + take) = v * 2 ^ r := by
    rcases hc with h | h
    · subst h
      have e : r + (8 - r) = 8 := by omega
      rw [e]
      have e2 : v * 2 ^ r / 256 = v / 2 ^ (8 - r) := by
        have : (256 : Nat) = 2 ^ (8 - r) * 2 ^ r := by rw [← Nat.pow_add, show 8 - r + r = 8 by omega]
        rw [this, Nat.mul_div_mul_right _ _ (Nat.two_pow_pos r)]
      rw [← e2]
      have := Nat.mod_add_div (v * 2 ^ r) 256
      omega
    · have e : v / 2 ^ take = 0 := Nat.div_eq_of_lt h
      rw [e, Nat.zero_mul, Nat.add_zero]
      apply Nat.mod_eq_of_lt
      have h1 : v * 2 ^ r < 2 ^ take * 2 ^ r := Nat.mul_lt_mul_of_pos_right h (Nat.two_pow_pos r)
      rw [← Nat.pow_add] at h1
      have h2 : 2 ^ (take + r) ≤ 2 ^ 8 := Nat.pow_le_pow_right (by decide) (by omega)
      omega
  have : (v / 2 ^ take) * (256 ^ q * 2 ^ (r + take)) = 256 ^ q * ((v / 2 ^ take) * 2 ^ (r + take)) := by rw [← Nat.mul_assoc, Nat.mul_comm (v / 2 ^ take), Nat.mul_assoc]
  rw [this, Nat.add_assoc, ← Nat.mul_add, key, ← Nat.mul_assoc, Nat.mul_comm (256 ^ q) v, Nat.mul_assoc]
theorem or_u8 {a b : Int} {r : Nat} (hr : r < 8) (ha0 : 0 ≤ a) (ha : a.toNat < 2 ^ r) (hb0 : 0 ≤ b) (hb : b < 256) (hd : b.toNat % 2 ^ r = 0) : bits .or .u8 a b = a + b := by
  obtain ⟨m, rfl⟩ := Int.eq_ofNat_of_zero_le ha0
  obtain ⟨n, rfl⟩ := Int.eq_ofNat_of_zero_le hb0
  simp only [Int.toNat_natCast] at ha hd
  have h8 : 2 ^ r ≤ 2 ^ 8 := Nat.pow_le_pow_right (by decide) (by omega)
  rw [(bits_nat .u8 8 (by decide) wraps_u8 m n (by omega) (by omega)).2, Nat.or_comm]
  have hq : n = 2 ^ r * (n / 2 ^ r) := by have := Nat.div_add_mod n (2 ^ r); omega
  rw [hq, ← Nat.two_pow_add_eq_or_of_lt ha (n / 2 ^ r), Int.natCast_add]; omega
theorem shl8 {x : Int} {r : Nat} (h0 : 0 ≤ x) (hr : r < 8) : shl .u8 (x % 256) r = ((x.toNat * 2 ^ r % 256 : Nat) : Int) := by
  obtain ⟨a, rfl⟩ := Int.eq_ofNat_of_zero_le h0
  unfold shl
  have hb : IntKind.u8.bits = 8 := rfl
  rw [hb, Int.toNat_natCast, Nat.min_eq_left (by omega), IntKind.wrap_u8]
  rw [Int.toNat_natCast, Int.mul_emod, Int.emod_emod, ← Int.mul_emod]; simp

theorem pack_byte (out : List Int) (q r v take : Nat) (hr : r < 8) (hqlen : q < out.length) (hb : Bytes out) (hN : leN out < 2 ^ (8 * q + r)) (hcase : take = 8 - r ∨ v < 2 ^ take) :
    ∃ d : Nat, d = v * 2 ^ r % 256 ∧ bits .or .u8 (out[q]) ((d : Nat) : Int) = out[q] + (d : Int) ∧ Bytes (out.set q (out[q] + (d : Int))) ∧ leN (out.set q (out[q] + (d : Int))) = leN out + 256 ^ q * d ∧ leN (out.set q (out[q] + (d : Int))) < 2 ^ (8 * q + r + take) := by
      have hbq := hb out[q] (List.getElem_mem hqlen)
      -- the byte that is turned
      have hat := leN_at out q hqlen hb
      have hsmall : (out[q]).toNat < 2 ^ r := by
        rw [hat]
        have : leN out / 256 ^ q < 2 ^ r := by
          rw [Nat.div_lt_iff_lt_mul (Nat.pow_pos (by decide)), Nat.mul_comm, ← pow8]; exact hN
        exact Nat.lt_of_le_of_lt (Nat.mod_le _ _) this
      have hd0 : v * 2 ^ r % 256 % 2 ^ r = 0 := by
        have : (256 : Nat) = 2 ^ r * 2 ^ (8 - r) := by rw [← Nat.pow_add, show r + (8 - r) = 8 by omega]
        rw [this, Nat.mod_mul_right_mod, Nat.mul_mod_left]
      obtain ⟨d, hd⟩ : ∃ d : Nat, d = v * 2 ^ r % 256 := ⟨_, rfl⟩
      have hd256 : d < 256 := by rw [hd]; exact Nat.mod_lt _ (by decide)
      have hor : bits .or .u8 (out[q]) ((d : Nat) : Int) = out[q] + (d : Int) := by
        refine or_u8 hr hbq.1 hsmall (by omega) (by omega) ?_
        rw [Int.toNat_natCast, hd]; exact hd0
      have hsum : out[q] + (d : Int) < 256 := by
        have h1 : (out[q]).toNat < 2 ^ r := hsmall
        have h2 : d = 2 ^ r * (d / 2 ^ r) := by have := Nat.div_add_mod d (2 ^ r); rw [← hd] at hd0; omega
        have h3 : d / 2 ^ r < 2 ^ (8 - r) := by
          rw [Nat.div_lt_iff_lt_mul (Nat.two_pow_pos r), ← Nat.pow_add, show 8 - r + r = 8 by omega]; exact hd256
        have h4 : 2 ^ r * (d / 2 ^ r + 1) ≤ 2 ^ r * 2 ^ (8 - r) := Nat.mul_le_mul_left _ h3
        rw [← Nat.pow_add, show r + (8 - r) = 8 by omega, Nat.mul_add, Nat.mul_one, ← h2] at h4
        omega
      have hset : leN (out.set q (out[q] + (d : Int))) = leN out + 256 ^ q * d := by
        have := leN_set out q (out[q] + (d : Int)) (d : Int) hqlen hbq.1 (by omega) rfl
        rw [Int.toNat_natCast] at this; exact this
      have hbytes : Bytes (out.set q (out[q] + (d : Int))) := by
        intro x hx
        rcases List.mem_or_eq_of_mem_set hx with h | h
        · exact hb x h
        · omega
      have hNew : leN (out.set q (out[q] + (d : Int))) < 2 ^ (8 * q + r + take) := by
        rw [hset, show 8 * q + r + take = 8 * q + (r + take) by omega, pow8]
        have h1 : leN out < 256 ^ q * 2 ^ r := by rw [← pow8]; exact hN
        have h2 : d + 2 ^ r ≤ 2 ^ (r + take) := by
          have g2 : d = 2 ^ r * (d / 2 ^ r) := by have := Nat.div_add_mod d (2 ^ r); rw [← hd] at hd0; omega
          have g3 : d / 2 ^ r < 2 ^ take := by
            rcases hcase with hc | hc
            · rw [hc, Nat.div_lt_iff_lt_mul (Nat.two_pow_pos r), ← Nat.pow_add, show 8 - r + r = 8 by omega]; exact hd256
            · have : d ≤ v * 2 ^ r := by rw [hd]; exact Nat.mod_le _ _
              rw [Nat.div_lt_iff_lt_mul (Nat.two_pow_pos r)]
              exact Nat.lt_of_le_of_lt this (Nat.mul_lt_mul_of_pos_right hc (Nat.two_pow_pos r))
          have g4 : 2 ^ r * (d / 2 ^ r + 1) ≤ 2 ^ r * 2 ^ take := Nat.mul_le_mul_left _ g3
          rw [← Nat.pow_add, Nat.mul_add, Nat.mul_one, ← g2] at g4
          exact g4
        have h3 : 256 ^ q * (d + 2 ^ r) ≤ 256 ^ q * 2 ^ (r + take) := Nat.mul_le_mul_left _ h2
        rw [Nat.mul_add] at h3
        omega
      exact ⟨d, hd, hor, hbytes, hset, hNew⟩

theorem n64 {v : Nat} (h : v < 18446744073709551616) : (v : Int) < 18446744073709551616 := by omega
theorem pk_q {q r left ol : Nat} (hlen : 8 * q + r + left ≤ 8 * ol) (hol : ol < 10000000) : q < 10000000 := by omega
theorem pk_ql {q r left ol : Nat} (hlen : 8 * q + r + left ≤ 8 * ol) (hz : ¬ left = 0) : q < ol := by omega
theorem pk_case {r left take : Nat} (h : take = min (8 - r) left) : take = 8 - r ∨ take = left := by omega
theorem pk_tl {r left take : Nat} (h : take = min (8 - r) left) : take ≤ left ∧ take ≤ 8 - r := by omega
theorem pk_e1 (q r : Nat) (hr : r < 8) (hq : q < 100000000) : wrap64 (Int.tdiv ((8 * q + r : Nat) : Int) 8) = (q : Int) := by
  have h : Int.tdiv ((8 * q + r : Nat) : Int) 8 = (q : Int) := by
    rw [Int.tdiv_eq_ediv_of_nonneg (Int.natCast_nonneg _)]; omega
  rw [h, w64 (by omega) (by omega)]
theorem pk_e2 (q r : Nat) (hr : r < 8) : Int.tmod ((8 * q + r : Nat) : Int) 8 = (r : Int) := by
  rw [Int.tmod_eq_emod_of_nonneg (Int.natCast_nonneg _)]; omega
theorem pk_e3 (r left take : Nat) (hr : r < 8) (h : take = min (8 - r) left) : mn (wrap64 (8 - (r : Int))) (left : Int) = (take : Int) := by
  rw [w64 (by omega) (by omega)]; unfold mn; split <;> omega
theorem pk_small (q r left take m q' r' ol : Nat) (hr : r < 8) (hq : q < 10000000) (hm : left ≤ m + 1) (h64 : left ≤ 64) (htk : take = min (8 - r) left) (hz : ¬ left = 0) (hqr : 8 * q + r + take = 8 * q' + r') (hr' : r' < 8) (hlen : 8 * q + r + left ≤ 8 * ol) (hol : ol < 10000000) :
    left - take ≤ m ∧ left - take ≤ 64 ∧ q' ≤ ol ∧ 8 * q' + r' + (left - take) ≤ 8 * ol ∧ 8 * q' + r' + (left - take) = 8 * q + r + left ∧ (left : Int) > 0 ∧ 0 ≤ (q : Int) ∧ (q : Int) < (ol : Int) ∧ IntKind.u64.wrap (r : Int) = (r : Int) ∧ 0 ≤ (r : Int) ∧ IntKind.u64.wrap (take : Int) = (take : Int) ∧ 0 ≤ (take : Int) ∧
    wrap64 (((8 * q + r : Nat) : Int) + (take : Int)) = ((8 * q' + r' : Nat) : Int) ∧ wrap64 ((left : Int) - (take : Int)) = ((left - take : Nat) : Int) := by
  refine ⟨by omega, by omega, by omega, by omega, by omega, by omega, by omega, by omega, u64w_id (by omega) (by omega), by omega, u64w_id (by omega) (by omega), by omega, ?_, ?_⟩
  · rw [w64 (by omega) (by omega)]; omega
  · rw [w64 (by omega) (by omega)]; omega
theorem pack_l1 (w : Int) (L : List Int) (n i : Int) : ∀ (m left : Nat) (out : List Int) (q r : Nat) (v : Nat), left ≤ m → left ≤ 64 → r < 8 → out.length < 10000000 → v < 2 ^ left → v < 18446744073709551616 → Bytes out → leN out < 2 ^ (8 * q + r) → 8 * q + r + left ≤ 8 * out.length →
    ∃ out', Bytes out' ∧ out'.length = out.length ∧ leN out' = leN out + v * 2 ^ (8 * q + r) ∧ ∀ res, Ev (fun k => bits_Pack.l0 k w out' ((8 * q + r + left : Nat) : Int) L n (wrap64 (i + 1))) res → Ev (fun k => bits_Pack.l1 k w out ((8 * q + r : Nat) : Int) v left L n i) res := by
  intro m
  induction m with
  | zero =>
    intro left out q r v hm h64 hr hol hv hv64 hb hN hlen
    have hl : left = 0 := by omega
    subst hl
    have hv0 : v = 0 := by simpa using hv
    subst hv0
    refine ⟨out, hb, rfl, by simp, ?_⟩
    intro res h
    refine Ev.step (f := fun k => bits_Pack.l0 k w out ((8 * q + r + 0 : Nat) : Int) L n (wrap64 (i + 1))) (fun k => ?_) h
    simp only [bits_Pack.l1]
    rw [if_neg (by omega), Nat.add_zero]
  | succ m ih =>
    intro left out q r v hm h64 hr hol hv hv64 hb hN hlen
    by_cases hz : left = 0
    · subst hz
      have hv0 : v = 0 := by simpa using hv
      subst hv0
      refine ⟨out, hb, rfl, by simp, ?_⟩
      intro res h
      refine Ev.step (f := fun k => bits_Pack.l0 k w out ((8 * q + r + 0 : Nat) : Int) L n (wrap64 (i + 1))) (fun k => ?_) h
      simp only [bits_Pack.l1]
      rw [if_neg (by omega), Nat.add_zero]
    · obtain ⟨take, htk⟩ : ∃ t, t = min (8 - r) left := ⟨_, rfl⟩
      obtain ⟨htl, ht8⟩ := pk_tl htk
      have hqlen : q < out.length := pk_ql hlen hz
      have hbq := hb out[q] (List.getElem_mem hqlen)
      have e1 := pk_e1 q r hr (Nat.lt_trans (pk_q hlen hol) (by decide))
      have e2 := pk_e2 q r hr
      have e3 := pk_e3 r left take hr htk
      obtain ⟨q', r', hqr, hr'⟩ : ∃ q' r', 8 * q + r + take = 8 * q' + r' ∧ r' < 8 := ⟨(8 * q + r + take) / 8, (8 * q + r + take) % 8, (Nat.div_add_mod _ 8).symm, Nat.mod_lt _ (by decide)⟩
      obtain ⟨g1, g2, g3, g4, g5, p1, p2, p3, p4, p5, p6, p7, t1, t2⟩ := pk_small q r left take m q' r' out.length hr (pk_q hlen hol) hm h64 htk hz hqr hr' hlen hol
      have hcase : take = 8 - r ∨ v < 2 ^ take := (pk_case htk).imp id (fun h => by rw [h]; exact hv)
      obtain ⟨d, hd, hor, hbytes, hset, hNew⟩ := pack_byte out q r v take hr hqlen hb hN hcase
      have hstep := pack_step (leN out) v q r take hr ht8 hcase
      have hvdiv : v / 2 ^ take < 2 ^ (left - take) := by
        rw [Nat.div_lt_iff_lt_mul (Nat.two_pow_pos take), ← Nat.pow_add, Nat.sub_add_cancel htl]; exact hv
      obtain ⟨out', hb', hl', hN', hgo⟩ := ih (left - take) (out.set q (out[q] + (d : Int))) q' r' (v / 2 ^ take) g1 g2 hr' (by rw [List.length_set]; exact hol) hvdiv (Nat.lt_of_le_of_lt (Nat.div_le_self _ _) hv64) hbytes (by rw [← hqr]; exact hNew) (by rw [List.length_set]; exact g4)
      refine ⟨out', hb', by rw [hl', List.length_set], ?_, ?_⟩
      · rw [hN', hset, ← hqr, hd]; exact hstep
      · intro res h
        refine Ev.step (fun k => ?_) (hgo res (by rw [g5]; exact h))
        simp only [bits_Pack.l1]
        rw [if_pos p1, e1, if_pos p2, if_pos p3, e2, p4, if_pos p5, e3, p6, if_pos p7]
        have s2 : shl .u8 ((v : Int) % 256) (r : Int) = ((d : Nat) : Int) := by rw [shl8 (Int.natCast_nonneg _) hr, Int.toNat_natCast, hd]
        have s3 : shr .u64 (v : Int) (take : Int) = ((v / 2 ^ take : Nat) : Int) := by rw [shr64 (Int.natCast_nonneg _) (n64 hv64), Int.toNat_natCast]
        rw [rd_get hqlen, s2, s3, hor, Int.toNat_natCast, t1, t2]

theorem pack_l0 (w : Nat) (hw : w ≤ 64) (L : List Int) (hn : L.length ≤ 65536) (hL : ∀ x ∈ L, 0 ≤ x ∧ x < 18446744073709551616 ∧ x.toNat < 2 ^ w) :
    ∀ (d i : Nat) (out : List Int), L.length = i + d → out.length < 10000000 → Bytes out → leN out = numN w (L.take i) → w * L.length ≤ 8 * out.length →
      Ev (fun k => bits_Pack.l0 k w out ((w * i : Nat) : Int) L L.length i) (digs out.length (numN w L), 0) := by
  intro d
  induction d with
  | zero =>
    intro i out hd hol hb hN hlen
    refine Ev.step (f := fun _ => some (digs out.length (numN w L), 0)) (fun k => ?_) (Ev.now _)
    simp only [bits_Pack.l0]
    rw [if_neg (by omega)]
    have : L.take i = L := List.take_of_length_le (by omega)
    rw [this] at hN
    rw [← hN, digs_leN out hb]
  | succ d ih =>
    intro i out hd hol hb hN hlen
    have hx := hL L[i] (List.getElem_mem (by omega))
    have hwi : w * i ≤ 64 * 65536 := Nat.mul_le_mul hw (by omega)
    have hlt : leN out < 2 ^ (w * i) := by
      rw [hN]
      have := numN_lt w (L.take i) (fun x hx => (hL x (List.mem_of_mem_take hx)).2.2)
      rw [List.length_take, Nat.min_eq_left (by omega)] at this; exact this
    have hqr : w * i = 8 * (w * i / 8) + w * i % 8 := by omega
    have hsum : w * i + w ≤ w * L.length := by
      have : w * (i + 1) ≤ w * L.length := Nat.mul_le_mul_left _ (by omega)
      rw [Nat.mul_add, Nat.mul_one] at this; exact this
    obtain ⟨out', hb', hl', hN', hgo⟩ := pack_l1 (w : Int) L L.length i w w out (w * i / 8) (w * i % 8) (L[i]).toNat (Nat.le_refl _) hw (Nat.mod_lt _ (by decide)) hol hx.2.2 (by omega) hb (by rw [← hqr]; exact hlt) (by rw [← hqr]; omega)
    rw [← hqr] at hN' hgo
    have htake : L.take (i + 1) = L.take i ++ [L[i]] := by rw [List.take_succ_eq_append_getElem (by omega)]
    have hrec := ih (i + 1) out' (by omega) (by rw [hl']; exact hol) hb' (by
      rw [hN', htake, numN_append, List.length_take, Nat.min_eq_left (by omega), hN]
      simp only [numN, Nat.mul_zero, Nat.add_zero]; rw [Nat.mul_comm (L[i]).toNat]) (by rw [hl']; exact hlen)
    rw [hl'] at hrec
    refine Ev.step (fun k => ?_) (hgo _ (by
      rw [w64 (by omega) (by omega)]
      have e1 : w * (i + 1) = w * i + w := by rw [Nat.mul_add, Nat.mul_one]
      rw [e1] at hrec
      simp only [Int.natCast_add, Int.natCast_one] at hrec ⊢
      exact hrec))
    simp only [bits_Pack.l0]
    rw [if_pos (by omega), if_pos (by omega), if_pos (by omega), rd_get (by omega), fits_f hx.1 hx.2.1 (by omega) (by omega), Option.bind_some, Int.toNat_natCast, decide_eq_true hx.2.2, if_pos rfl, Int.toNat_of_nonneg hx.1]
/-- a number that doesn't fit -/
theorem pack_l0_bad (w : Nat) (hw : w ≤ 64) (L : List Int) (hn : L.length ≤ 65536) (hL : ∀ x ∈ L, 0 ≤ x ∧ x < 18446744073709551616) :
    ∀ (d i : Nat) (out : List Int), L.length = i + d → (∃ x ∈ L.drop i, ¬ x.toNat < 2 ^ w) → (∀ x ∈ L.take i, x.toNat < 2 ^ w) → out.length < 10000000 → Bytes out → leN out = numN w (L.take i) → w * L.length ≤ 8 * out.length →
      Ev (fun k => bits_Pack.l0 k w out ((w * i : Nat) : Int) L L.length i) ([], 5) := by
  intro d
  induction d with
  | zero =>
    intro i out hd hbad _ _ hb hN hlen
    obtain ⟨x, hx, _⟩ := hbad
    rw [List.drop_of_length_le (by omega)] at hx; simp at hx
  | succ d ih =>
    intro i out hd hbad hgood hol hb hN hlen
    have hx := hL L[i] (List.getElem_mem (by omega))
    by_cases hf : (L[i]).toNat < 2 ^ w
    · have hwi : w * i ≤ 64 * 65536 := Nat.mul_le_mul hw (by omega)
      have hlt : leN out < 2 ^ (w * i) := by
        rw [hN]
        have := numN_lt w (L.take i) hgood
        rw [List.length_take, Nat.min_eq_left (by omega)] at this; exact this
      have hqr : w * i = 8 * (w * i / 8) + w * i % 8 := by omega
      have hsum : w * i + w ≤ w * L.length := by
        have : w * (i + 1) ≤ w * L.length := Nat.mul_le_mul_left _ (by omega)
        rw [Nat.mul_add, Nat.mul_one] at this; exact this
      obtain ⟨out', hb', hl', hN', hgo⟩ := pack_l1 (w : Int) L L.length i w w out (w * i / 8) (w * i % 8) (L[i]).toNat (Nat.le_refl _) hw (Nat.mod_lt _ (by decide)) hol hf (by omega) hb (by rw [← hqr]; exact hlt) (by rw [← hqr]; omega)
      rw [← hqr] at hN' hgo
      have htake : L.take (i + 1) = L.take i ++ [L[i]] := by rw [List.take_succ_eq_append_getElem (by omega)]
      have hrec := ih (i + 1) out' (by omega) (by
          obtain ⟨x, hxd, hxx⟩ := hbad
          have hxd' : x ∈ L[i] :: L.drop (i + 1) := by rw [← dropc L i (by omega)]; exact hxd
          rcases List.mem_cons.1 hxd' with e | h
          · exact absurd (by rw [e]; exact hf) hxx
          · exact ⟨x, h, hxx⟩) (by
          intro x hx
          rw [htake] at hx
          rcases List.mem_append.1 hx with hx | hx
          · exact hgood x hx
          · simp at hx; rw [hx]; exact hf) (by rw [hl']; exact hol) hb' (by
        rw [hN', htake, numN_append, List.length_take, Nat.min_eq_left (by omega), hN]
        simp only [numN, Nat.mul_zero, Nat.add_zero]; rw [Nat.mul_comm (L[i]).toNat]) (by rw [hl']; exact hlen)
      refine Ev.step (fun k => ?_) (hgo _ (by
        rw [w64 (by omega) (by omega)]
        have e1 : w * (i + 1) = w * i + w := by rw [Nat.mul_add, Nat.mul_one]
        rw [e1] at hrec
        simp only [Int.natCast_add, Int.natCast_one] at hrec ⊢
        exact hrec))
      simp only [bits_Pack.l0]
      rw [if_pos (by omega), if_pos (by omega), if_pos (by omega), rd_get (by omega), fits_f hx.1 hx.2 (by omega) (by omega), Option.bind_some, Int.toNat_natCast, decide_eq_true hf, if_pos rfl, Int.toNat_of_nonneg hx.1]
    · refine Ev.step (f := fun _ => some ([], 5)) (fun k => ?_) (Ev.now _)
      simp only [bits_Pack.l0]
      rw [if_pos (by omega), if_pos (by omega), if_pos (by omega), rd_get (by omega), fits_f hx.1 hx.2 (by omega) (by omega), Option.bind_some, Int.toNat_natCast, decide_eq_false hf, if_neg (by decide)]
def fitAll (L : List Int) (w : Nat) : Prop := ∀ x ∈ L, x.toNat < 2 ^ w
instance (L : List Int) (w : Nat) : Decidable (fitAll L w) := inferInstanceAs (Decidable (∀ x ∈ L, x.toNat < 2 ^ w))
def packed (L : List Int) (w : Int) : List Int × Int :=
  if okSize L.length w then (if fitAll L w.toNat then (digs (sizeN L.length w.toNat) (numN w.toNat L), 0) else ([], 5)) else ([], 1)
theorem bytes_zeros (n : Nat) : Bytes (List.replicate n 0) := by intro x hx; rw [(List.mem_replicate.1 hx).2]; decide
theorem pack_f (L : List Int) (w : Int) (hL : ∀ x ∈ L, 0 ≤ x ∧ x < 18446744073709551616) : Ev (fun k => bits_Pack.f k L w) (packed L w) := by
  unfold bits_Pack.f packed
  by_cases ho : okSize L.length w
  · obtain ⟨h1, h2, h3, h4⟩ := id ho
    obtain ⟨m, rfl⟩ := Int.eq_ofNat_of_zero_le h3
    rw [if_pos ho]
    have hs : sizeN L.length m < 10000000 := by
      unfold sizeN
      have : L.length * m ≤ 65536 * 64 := Nat.mul_le_mul (by omega) (by omega)
      omega
    have hle : m * L.length ≤ 8 * sizeN L.length m := by unfold sizeN; rw [Nat.mul_comm m]; omega
    refine Ev.congr (f := fun k => bits_Pack.l0 k m (List.replicate (sizeN L.length m) 0) ((m * 0 : Nat) : Int) L L.length ((0 : Nat) : Int)) (fun k => ?_) ?_
    · rw [size_f, if_pos ho, Option.bind_some, Int.toNat_natCast, if_neg (by omega)]
      simp only [Int.toNat_natCast]
      rw [if_pos (by omega), if_pos (by omega)]; rfl
    · by_cases hf : fitAll L m
      · rw [Int.toNat_natCast, if_pos hf]
        have := pack_l0 m (by omega) L (by omega) (fun x hx => ⟨(hL x hx).1, (hL x hx).2, hf x hx⟩) L.length 0 (List.replicate (sizeN L.length m) 0) (by omega) (by rw [List.length_replicate]; exact hs) (bytes_zeros _) (by simp [leN_zeros, numN]) (by simpa using hle)
        rw [List.length_replicate] at this; exact this
      · rw [Int.toNat_natCast, if_neg hf]
        unfold fitAll at hf
        refine pack_l0_bad m (by omega) L (by omega) hL L.length 0 _ (by omega) ?_ (by simp) (by rw [List.length_replicate]; exact hs) (bytes_zeros _) (by simp [leN_zeros, numN]) (by simpa using hle)
        have hf := Classical.not_forall.1 hf
        obtain ⟨x, hx⟩ := hf
        have hx := Classical.not_imp.1 hx
        exact ⟨x, by simpa using hx.1, hx.2⟩
  · rw [if_neg ho]
    refine Ev.congr (f := fun _ => some ([], 1)) (fun k => ?_) (Ev.now _)
    rw [size_f, if_neg ho, Option.bind_some, if_pos (by decide)]

/-! math/bits.Len64 -/
abbrev T8 : ByteArray := ⟨#[0, 1, 2, 2, 3, 3, 3, 3, 4, 4, 4, 4, 4, 4, 4, 4, 5, 5, 5, 5, 5, 5, 5, 5, 5, 5, 5, 5, 5, 5, 5, 5, 6, 6, 6, 6, 6, 6, 6, 6, 6, 6, 6, 6, 6, 6, 6, 6, 6, 6, 6, 6, 6, 6, 6, 6, 6, 6, 6, 6, 6, 6, 6, 6, 7, 7, 7, 7, 7, 7, 7, 7, 7, 7, 7, 7, 7, 7, 7, 7, 7, 7, 7, 7, 7, 7, 7, 7, 7, 7, 7, 7, 7, 7, 7, 7, 7, 7, 7, 7, 7, 7, 7, 7, 7, 7, 7, 7, 7, 7, 7, 7, 7, 7, 7, 7, 7, 7, 7, 7, 7, 7, 7, 7, 7, 7, 7, 7, 8, 8, 8, 8, 8, 8, 8, 8, 8, 8, 8, 8, 8, 8, 8, 8, 8, 8, 8, 8, 8, 8, 8, 8, 8, 8, 8, 8, 8, 8, 8, 8, 8, 8, 8, 8, 8, 8, 8, 8, 8, 8, 8, 8, 8, 8, 8, 8, 8, 8, 8, 8, 8, 8, 8, 8, 8, 8, 8, 8, 8, 8, 8, 8, 8, 8, 8, 8, 8, 8, 8, 8, 8, 8, 8, 8, 8, 8, 8, 8, 8, 8, 8, 8, 8, 8, 8, 8, 8, 8, 8, 8, 8, 8, 8, 8, 8, 8, 8, 8, 8, 8, 8, 8, 8, 8, 8, 8, 8, 8, 8, 8, 8, 8, 8, 8, 8, 8, 8, 8, 8, 8, 8, 8, 8, 8, 8, 8]⟩
theorem tab8 : ∀ n : Fin 256, bt T8 (n.val : Int) = (Lib.bitLen n.val : Int) := by decide +kernel
theorem tab8_at {i : Int} (h0 : 0 ≤ i) (h1 : i < 256) : bt T8 i = (Lib.bitLen i.toNat : Int) := by
  have := tab8 ⟨i.toNat, by omega⟩
  simpa [Int.toNat_of_nonneg h0] using this
theorem bitlen_le {v : Nat} (h : v < 18446744073709551616) : Lib.bitLen v ≤ 64 := Lib.bitLen_le v 64 (by decide) (by simpa using h)
theorem len8_some {x y : Int} (h0 : 0 ≤ x) (h1 : x < 256) (hy0 : 0 ≤ y) (hy1 : y < 1000) : (if 0 ≤ x % 256 then (if x % 256 < 256 then some (wrap64 (y + wrap64 (bt T8 (x % 256)))) else none) else none) = some (y + (Lib.bitLen x.toNat : Int)) := by
  have e : x % 256 = x := by omega
  have hb := bitlen_le (v := x.toNat) (by omega)
  rw [e, if_pos h0, if_pos h1, tab8_at h0 h1, w64 (n := (Lib.bitLen x.toNat : Int)) (by omega) (by omega), w64 (by omega) (by omega)]
theorem len32_j (k : Nat) {x y : Int} (h0 : 0 ≤ x) (h1 : x < 4294967296) (hy0 : 0 ≤ y) (hy1 : y < 100) : bits_Len64.j0 (k + 1) x y = some (y + (Lib.bitLen x.toNat : Int)) := by
  rw [bits_Len64.j0.eq_2]
  by_cases c1 : x ≥ 65536
  · rw [if_pos c1]
    have hs := Lib.bitLen_shift16 x.toNat (by omega) (by omega)
    have e1 : (x / 65536).toNat = x.toNat / 65536 := by omega
    by_cases c2 : x / 65536 ≥ 256
    · rw [if_pos c2]
      have hs2 := Lib.bitLen_shift8 (x.toNat / 65536) (by omega) (by omega)
      have e2 : (x / 65536 / 256).toNat = x.toNat / 65536 / 256 := by omega
      refine (len8_some (x := x / 65536 / 256) (y := wrap64 (wrap64 (y + 16) + 8)) (by omega) (by omega) ?_ ?_).trans ?_
      · rw [w64 (n := y + 16) (by omega) (by omega), w64 (by omega) (by omega)]; omega
      · rw [w64 (n := y + 16) (by omega) (by omega), w64 (by omega) (by omega)]; omega
      · rw [w64 (n := y + 16) (by omega) (by omega), w64 (by omega) (by omega), e2, hs, hs2]; congr 1; omega
    · rw [if_neg c2]
      refine (len8_some (x := x / 65536) (y := wrap64 (y + 16)) (by omega) (by omega) ?_ ?_).trans ?_
      · rw [w64 (by omega) (by omega)]; omega
      · rw [w64 (by omega) (by omega)]; omega
      · rw [w64 (by omega) (by omega), e1, hs]; congr 1; omega
  · rw [if_neg c1]
    by_cases c2 : x ≥ 256
    · rw [if_pos c2]
      have hs2 := Lib.bitLen_shift8 x.toNat (by omega) (by omega)
      have e2 : (x / 256).toNat = x.toNat / 256 := by omega
      refine (len8_some (x := x / 256) (y := wrap64 (y + 8)) (by omega) (by omega) ?_ ?_).trans ?_
      · rw [w64 (by omega) (by omega)]; omega
      · rw [w64 (by omega) (by omega)]; omega
      · rw [w64 (by omega) (by omega), e2, hs2]; congr 1; omega
    · rw [if_neg c2]
      exact len8_some h0 (by omega) hy0 (by omega)
theorem len64_f {x : Int} {k : Nat} (h0 : 0 ≤ x) (h1 : x < 18446744073709551616) (hk : 1 ≤ k) : bits_Len64.f k x = some (Lib.bitLen x.toNat : Int) := by
  obtain ⟨k, rfl⟩ : ∃ m, k = m + 1 := ⟨k - 1, by omega⟩
  unfold bits_Len64.f
  by_cases c : x ≥ 4294967296
  · have hs := Lib.bitLen_shift32 x.toNat (by omega) (by omega)
    have e : (x / 4294967296).toNat = x.toNat / 4294967296 := by omega
    rw [if_pos c, len32_j k (by omega) (by omega) (by omega) (by omega), e, hs]; rfl
  · rw [if_neg c, len32_j k h0 (by omega) (by omega) (by omega), Int.zero_add]

/-! bits.Width: the least width of all -/
def orAll (L : List Int) : Nat := L.foldl (fun a x => a ||| x.toNat) 0
def maxW (L : List Int) : Nat := L.foldl (fun a x => max a (Lib.bitLen x.toNat)) 0
theorem pk_no (a b : Nat) : ¬ a + (1 + b) ≤ a := by omega
theorem bitlen_lt {v k : Nat} (h : Lib.bitLen v ≤ k) (hv : v < 18446744073709551616) : v < 2 ^ k := by
  refine Classical.byContradiction fun hc => ?_
  have hk : k ≤ 64 ∨ 64 < k := by omega
  rcases hk with hk | hk
  · have := Lib.bitLen_shift k v (Nat.le_of_not_lt hc) (Nat.lt_of_lt_of_eq hv (by decide))
    have hpos : 1 ≤ v / 2 ^ k := by rw [Nat.le_div_iff_mul_le (Nat.two_pow_pos k), Nat.one_mul]; exact Nat.le_of_not_lt hc
    have h2 : v / 2 ^ k < 2 ^ 64 := Nat.lt_of_le_of_lt (Nat.div_le_self _ _) (Nat.lt_of_lt_of_eq hv (by decide))
    have h3 := Lib.bitLen_half (v / 2 ^ k) (Nat.ne_of_gt hpos) h2
    rw [this, h3] at h
    exact absurd h (pk_no _ _)
  · exact hc (Nat.lt_of_lt_of_le (Nat.lt_of_lt_of_eq hv (by decide : (18446744073709551616 : Nat) = 2 ^ 64)) (Nat.pow_le_pow_right (by decide) (Nat.le_of_lt hk)))
theorem bitlen_iff {v k : Nat} (hv : v < 18446744073709551616) (hk : k ≤ 64) : Lib.bitLen v ≤ k ↔ v < 2 ^ k :=
  ⟨fun h => bitlen_lt h hv, fun h => Lib.bitLen_le v k hk h⟩
theorem bitlen_or {a b : Nat} (ha : a < 18446744073709551616) (hb : b < 18446744073709551616) : Lib.bitLen (a ||| b) = max (Lib.bitLen a) (Lib.bitLen b) := by
  have p64 : (18446744073709551616 : Nat) = 2 ^ 64 := by decide
  have hab : a ||| b < 18446744073709551616 := by rw [p64] at *; exact Nat.or_lt_two_pow ha hb
  apply Nat.le_antisymm
  · have hm : max (Lib.bitLen a) (Lib.bitLen b) ≤ 64 := Nat.max_le.2 ⟨bitlen_le ha, bitlen_le hb⟩
    rw [bitlen_iff hab hm]
    exact Nat.or_lt_two_pow (Nat.lt_of_lt_of_le (bitlen_lt (Nat.le_refl _) ha) (Nat.pow_le_pow_right (by decide) (Nat.le_max_left _ _))) (Nat.lt_of_lt_of_le (bitlen_lt (Nat.le_refl _) hb) (Nat.pow_le_pow_right (by decide) (Nat.le_max_right _ _)))
  · have h := bitlen_lt (Nat.le_refl (Lib.bitLen (a ||| b))) hab
    refine Nat.max_le.2 ⟨(bitlen_iff ha (bitlen_le hab)).2 ?_, (bitlen_iff hb (bitlen_le hab)).2 ?_⟩
    · exact Nat.lt_of_le_of_lt Nat.left_le_or h
    · exact Nat.lt_of_le_of_lt Nat.right_le_or h
theorem width_l0 (L : List Int) (hn : L.length ≤ 65536) (hL : ∀ x ∈ L, 0 ≤ x ∧ x < 18446744073709551616) :
    ∀ (d k i a : Nat), L.length = i + d → d + 1 < k → a < 18446744073709551616 → bits_Width.l0 k a L L.length i = some ((((L.drop i).foldl (fun m x => max m (Lib.bitLen x.toNat)) (Lib.bitLen a) : Nat)) : Int) := by
  intro d
  induction d with
  | zero =>
    intro k i a hd hk ha
    obtain ⟨k, rfl⟩ : ∃ m, k = m + 1 := ⟨k - 1, by omega⟩
    simp only [bits_Width.l0]
    rw [if_neg (by omega), List.drop_of_length_le (by omega), len64_f (by omega) (by omega) (by omega), Option.bind_some]; simp
  | succ d ih =>
    intro k i a hd hk ha
    obtain ⟨k, rfl⟩ : ∃ m, k = m + 1 := ⟨k - 1, by omega⟩
    simp only [bits_Width.l0]
    have hx := hL L[i] (List.getElem_mem (by omega))
    have hx2 : (L[i]).toNat < 18446744073709551616 := by omega
    have p64 : (18446744073709551616 : Nat) = 2 ^ 64 := by decide
    have hor : bits .or .u64 (a : Int) (L[i]) = ((a ||| (L[i]).toNat : Nat) : Int) := by
      obtain ⟨y, hy⟩ := Int.eq_ofNat_of_zero_le hx.1
      rw [hy, Int.toNat_natCast]
      exact (bits_nat .u64 64 (by decide) wraps_u64 a y (by rw [← p64]; exact ha) (by rw [← p64]; omega)).2
    rw [if_pos (by omega), if_pos (by omega), if_pos (by omega), rd_get (by omega), hor, w64 (by omega) (by omega)]
    have := ih k (i + 1) (a ||| (L[i]).toNat) (by omega) (by omega) (by rw [p64] at *; exact Nat.or_lt_two_pow ha hx2)
    simp only [Int.natCast_add, Int.natCast_one] at this
    rw [this, dropc L i (by omega), List.foldl_cons, bitlen_or ha hx2]
theorem bitlen_zero : Lib.bitLen 0 = 0 := by decide
theorem width_f (L : List Int) (hn : L.length ≤ 65536) (hL : ∀ x ∈ L, 0 ≤ x ∧ x < 18446744073709551616) {k : Nat} (hk : L.length + 1 < k) : bits_Width.f k L = some (maxW L : Int) := by
  unfold bits_Width.f maxW
  have := width_l0 L hn hL L.length k 0 0 (by omega) hk (by omega)
  rw [List.drop_zero, bitlen_zero] at this
  exact this
theorem maxW_ge : ∀ (L : List Int) (a : Nat), a ≤ L.foldl (fun m x => max m (Lib.bitLen x.toNat)) a := by
  intro L; induction L with
  | nil => intro a; exact Nat.le_refl _
  | cons x L ih => intro a; exact Nat.le_trans (Nat.le_max_left _ _) (ih _)
theorem maxW_le : ∀ (L : List Int) (a w : Nat), L.foldl (fun m x => max m (Lib.bitLen x.toNat)) a ≤ w ↔ a ≤ w ∧ ∀ x ∈ L, Lib.bitLen x.toNat ≤ w := by
  intro L; induction L with
  | nil => intro a w; simp
  | cons x L ih => intro a w; rw [List.foldl_cons, ih, Nat.max_le]; simp [and_assoc]
theorem maxW_fit (L : List Int) (w : Nat) (hw : w ≤ 64) (hL : ∀ x ∈ L, 0 ≤ x ∧ x < 18446744073709551616) : maxW L ≤ w ↔ fitAll L w := by
  unfold maxW fitAll
  rw [maxW_le]
  constructor
  · intro h x hx; exact bitlen_lt (h.2 x hx) (by have := hL x hx; omega)
  · intro h; exact ⟨Nat.zero_le _, fun x hx => (bitlen_iff (by have := hL x hx; omega) hw).2 (h x hx)⟩
theorem maxW_64 (L : List Int) (hL : ∀ x ∈ L, 0 ≤ x ∧ x < 18446744073709551616) : maxW L ≤ 64 := by
  unfold maxW
  rw [maxW_le]
  exact ⟨Nat.zero_le _, fun x hx => bitlen_le (by have := hL x hx; omega)⟩

theorem digs_split : ∀ (a b N : Nat), digs (a + b) N = digs a N ++ digs b (N / 256 ^ a) := by
  intro a
  induction a with
  | zero => intro b N; simp [digs]
  | succ a ih =>
    intro b N
    rw [show a + 1 + b = (a + b) + 1 by omega]
    simp only [digs, List.cons_append]
    rw [ih b (N / 256), Nat.div_div_eq_div_mul, Nat.pow_succ, Nat.mul_comm 256]

/-! delta: steps, sums, turned numbers, Put -/
def I64 (x : Int) : Prop := -9223372036854775808 ≤ x ∧ x ≤ 9223372036854775807
theorem wrap_i64 (x : Int) : I64 (wrap64 x) := by unfold I64 wrap64; omega
def steps : Int → List Int → List Int
  | _, [] => []
  | last, x :: l => wrap64 (x - last) :: steps x l
def sums : Int → List Int → List Int
  | _, [] => []
  | last, x :: l => wrap64 (last + x) :: sums (wrap64 (last + x)) l
theorem steps_length : ∀ (l : List Int) (a : Int), (steps a l).length = l.length := by
  intro l; induction l with
  | nil => intro a; rfl
  | cons x l ih => intro a; simp [steps, ih]
theorem sums_length : ∀ (l : List Int) (a : Int), (sums a l).length = l.length := by
  intro l; induction l with
  | nil => intro a; rfl
  | cons x l ih => intro a; simp [sums, ih]
theorem steps_i64 : ∀ (l : List Int) (a : Int), ∀ x ∈ steps a l, I64 x := by
  intro l; induction l with
  | nil => intro a x hx; simp [steps] at hx
  | cons y l ih =>
    intro a x hx
    simp only [steps, List.mem_cons] at hx
    rcases hx with rfl | hx
    · exact wrap_i64 _
    · exact ih _ x hx
theorem steps_l0 (l : List Int) (hn : l.length ≤ 65536) : ∀ (d k i : Nat) (out : List Int) (last : Int), l.length = i + d → d < k → out.length ≤ i → delta_Steps.l0 k out last l l.length i = some (out ++ steps last (l.drop i)) := by
  intro d
  induction d with
  | zero =>
    intro k i out last hd hk ho
    obtain ⟨k, rfl⟩ : ∃ m, k = m + 1 := ⟨k - 1, by omega⟩
    simp only [delta_Steps.l0]
    rw [if_neg (by omega), List.drop_of_length_le (by omega)]; simp [steps]
  | succ d ih =>
    intro k i out last hd hk ho
    obtain ⟨k, rfl⟩ : ∃ m, k = m + 1 := ⟨k - 1, by omega⟩
    simp only [delta_Steps.l0]
    have := ih k (i + 1) (out ++ [wrap64 (l[i] - last)]) l[i] (by omega) (by omega) (by simp; omega)
    simp only [Int.natCast_add, Int.natCast_one] at this
    rw [if_pos (by omega), if_pos (by omega), if_pos (by omega), if_pos (by omega), rd_get (by omega), w64 (n := (i : Int) + 1) (by omega) (by omega), this, dropc l i (by omega), steps, List.append_assoc, List.singleton_append]
theorem steps_f (l : List Int) (hn : l.length ≤ 65536) : Ev (fun k => delta_Steps.f k l) (steps 0 l) := ⟨l.length + 1, fun k hk => by
  show delta_Steps.f k l = _
  unfold delta_Steps.f
  have := steps_l0 l hn l.length k 0 [] 0 (by omega) (by omega) (by simp)
  simpa using this⟩
theorem zigs_l0 (l : List Int) (hn : l.length ≤ 65536) (hw : ∀ x ∈ l, I64 x) : ∀ (d k i : Nat) (out : List Int), l.length = i + d → d < k → out.length ≤ i → delta_zigs.l0 k out l l.length i = some (out ++ (l.drop i).map zz) := by
  intro d
  induction d with
  | zero =>
    intro k i out hd hk ho
    obtain ⟨k, rfl⟩ : ∃ m, k = m + 1 := ⟨k - 1, by omega⟩
    simp only [delta_zigs.l0]
    rw [if_neg (by omega), List.drop_of_length_le (by omega)]; simp
  | succ d ih =>
    intro k i out hd hk ho
    obtain ⟨k, rfl⟩ : ∃ m, k = m + 1 := ⟨k - 1, by omega⟩
    simp only [delta_zigs.l0]
    have hx := hw l[i] (List.getElem_mem (by omega))
    have := ih k (i + 1) (out ++ [zz l[i]]) (by omega) (by omega) (by simp; omega)
    simp only [Int.natCast_add, Int.natCast_one] at this
    rw [if_pos (by omega), if_pos (by omega), if_pos (by omega), rd_get (by omega), zig_f hx.1 hx.2, Option.bind_some, if_pos (by omega), w64 (n := (i : Int) + 1) (by omega) (by omega), this, dropc l i (by omega), List.map_cons, List.append_assoc, List.singleton_append]
theorem zigs_f (l : List Int) (hn : l.length ≤ 65536) (hw : ∀ x ∈ l, I64 x) : Ev (fun k => delta_zigs.f k l) (l.map zz) := ⟨l.length + 1, fun k hk => by
  show delta_zigs.f k l = _
  unfold delta_zigs.f
  have := zigs_l0 l hn hw l.length k 0 [] (by omega) (by omega) (by simp)
  simpa using this⟩
theorem zz_u64 (l : List Int) (hw : ∀ x ∈ l, I64 x) : ∀ x ∈ l.map zz, 0 ≤ x ∧ x < 18446744073709551616 := by
  intro x hx
  obtain ⟨y, hy, rfl⟩ := List.mem_map.1 hx
  exact zz_range (hw y hy).1 (hw y hy).2
/-- the form of turned steps -/
def deltaForm : List Int → List Int
  | [] => []
  | z :: [] => leb z.toNat
  | z :: y :: r => leb z.toNat ++ [(maxW (y :: r) : Int)] ++ (packed (y :: r) (maxW (y :: r))).1
def deltaOf (l : List Int) : List Int := deltaForm ((steps 0 l).map zz)
theorem packed_maxd (d : List Int) (hn : d.length ≤ 65536) (hd : ∀ x ∈ d, 0 ≤ x ∧ x < 18446744073709551616) : (packed d (maxW d)).2 = 0 ∧ (packed d (maxW d)).1.length ≤ 8 * d.length := by
  have h64 := maxW_64 d hd
  have oa : okSize (d.length : Int) ((maxW d : Nat) : Int) := ⟨by omega, by omega, by omega, by omega⟩
  have hf : fitAll d (maxW d) := (maxW_fit d _ h64 hd).1 (Nat.le_refl _)
  unfold packed
  rw [if_pos oa, Int.toNat_natCast, if_pos hf]
  refine ⟨rfl, ?_⟩
  show (digs _ _).length ≤ _
  rw [digs_length]
  have : d.length * maxW d ≤ d.length * 64 := Nat.mul_le_mul_left _ h64
  unfold sizeN; omega
theorem width_evd (L : List Int) (hn : L.length ≤ 65536) (hL : ∀ x ∈ L, 0 ≤ x ∧ x < 18446744073709551616) : Ev (fun k => bits_Width.f k L) (maxW L : Int) := ⟨L.length + 2, fun k hk => width_f L hn hL (by omega)⟩
theorem byte_wd {w : Nat} (h : w ≤ 64) : (w : Int) % 256 = (w : Int) := by omega
theorem putvar_nil {v : Int} (h0 : 0 ≤ v) (h1 : v < 18446744073709551616) : Ev (fun k => num_PutVar.f k ([] : List Int) v) (leb v.toNat) := ⟨10, fun k hk => by
  have := putvar_f (b := []) (k := k) h0 h1 hk (by decide)
  simpa using this⟩
theorem deltaForm_length : ∀ (z : List Int), z.length ≤ 65536 → (∀ x ∈ z, 0 ≤ x ∧ x < 18446744073709551616) → (deltaForm z).length ≤ 8 * z.length + 11 := by
  intro z hn hz
  match z with
  | [] => exact Nat.zero_le _
  | [a] =>
    have ha := hz a (by simp)
    have := leb_length10 (v := a.toNat) (by omega)
    simp only [deltaForm]; omega
  | a :: y :: r =>
    have ha := hz a (by simp)
    have h10 := leb_length10 (v := a.toNat) (by omega)
    have := (packed_maxd (y :: r) (by simp at hn ⊢; omega) (fun x hx => hz x (by simp at hx ⊢; exact .inr hx))).2
    simp only [deltaForm, List.length_append, List.length_cons, List.length_nil] at this ⊢; omega
theorem deltaput_f (l : List Int) (hn : l.length ≤ 65536) : Ev (fun k => delta_Put.f k l) (deltaOf l, 0) := by
  unfold delta_Put.f deltaOf
  have c : ¬ (l.length : Int) > 65536 := by omega
  simp only [if_neg c]
  refine Ev.bind (steps_f l hn) ?_
  have hsl := steps_length l 0
  have hsi := steps_i64 l 0
  refine Ev.bind (zigs_f _ (by omega) hsi) ?_
  have hz := zz_u64 _ hsi
  have hzl : ((steps 0 l).map zz).length = l.length := by rw [List.length_map, hsl]
  obtain ⟨z, hzz⟩ : ∃ z, z = (steps 0 l).map zz := ⟨_, rfl⟩
  rw [← hzz] at hz hzl ⊢
  clear hzz
  match z, hz, hzl with
  | [], hz, hzl =>
    simp only [List.length_nil]
    have c1 : ¬ ((0 : Nat) : Int) = 1 := by decide
    have c2 : ((0 : Nat) : Int) = 0 := rfl
    simp only [if_neg c1, if_pos c2]; exact Ev.now _
  | [a], hz, hzl =>
    have c1 : (([a] : List Int).length : Int) = 1 := rfl
    have c2 : 0 < (([a] : List Int).length : Int) := by simp
    simp only [if_pos c1, if_pos c2]
    have ha := hz a (by simp)
    exact Ev.bind (putvar_nil ha.1 ha.2) (Ev.now _)
  | a :: y :: r, hz, hzl =>
    have c1 : ¬ ((a :: y :: r : List Int).length : Int) = 1 := by simp only [List.length_cons]; omega
    have c2 : ¬ ((a :: y :: r : List Int).length : Int) = 0 := by simp only [List.length_cons]; omega
    have c3 : 1 ≤ ((a :: y :: r : List Int).length : Int) := by simp only [List.length_cons]; omega
    have c4 : 0 < ((a :: y :: r : List Int).length : Int) := by simp only [List.length_cons]; omega
    simp only [if_neg c1, if_neg c2, if_pos c3, if_pos c4]
    have ha := hz a (by simp)
    have hr : ∀ x ∈ y :: r, 0 ≤ x ∧ x < 18446744073709551616 := fun x hx => hz x (List.mem_cons_of_mem _ hx)
    have hrl : (y :: r).length ≤ 65536 := by simp only [List.length_cons] at hzl ⊢; omega
    obtain ⟨q1, q2⟩ := packed_maxd _ hrl hr
    refine Ev.bind (Ev.now _) ?_
    refine Ev.bind (width_evd (y :: r) hrl hr) ?_
    refine Ev.bind (pack_f (y :: r) _ hr) ?_
    refine Ev.bind (Ev.now _) ?_
    have i1 : ([((maxW (y :: r) : Nat) : Int)] : List Int).length + (packed (y :: r) ((maxW (y :: r) : Nat) : Int)).1.length < 140737488355328 := by simp only [List.length_singleton]; omega
    simp only [byte_wd (maxW_64 _ hr), if_pos i1]
    refine Ev.bind (Ev.now _) ?_
    refine Ev.bind (putvar_nil ha.1 ha.2) ?_
    have h10 := leb_length10 (v := a.toNat) (by omega)
    have i2 : (leb a.toNat).length + ([((maxW (y :: r) : Nat) : Int)] ++ (packed (y :: r) ((maxW (y :: r) : Nat) : Int)).1).length < 140737488355328 := by rw [List.length_append, List.length_singleton]; omega
    have e : rd (a :: y :: r) 0 = a := rfl
    rw [e]
    simp only [if_pos i2, q1, deltaForm, List.append_assoc]
    exact Ev.now _
theorem deltaawake_eq : deltaOf [10, 11, 13] = [20, 3, 34] := by
  have h1 : (steps 0 [10, 11, 13]).map zz = [20, 2, 4] := by decide +kernel
  have h3 : maxW [2, 4] = 3 := by decide
  have h4 : packed [2, 4] ((3 : Nat) : Int) = ([34], 0) := by decide
  unfold deltaOf
  rw [h1]
  show leb _ ++ [((maxW [2, 4] : Nat) : Int)] ++ (packed [2, 4] ((maxW [2, 4] : Nat) : Int)).1 = _
  rw [h3, h4, leb_small (by decide)]; decide
theorem deltaawake : Ev (fun k => estreatlaw10_awake.f k) true := by
  unfold estreatlaw10_awake.f
  refine Ev.bind (deltaput_f [10, 11, 13] (by decide)) ?_
  rw [deltaawake_eq]
  refine Ev.bind (a := true) ⟨10, fun k hk => by
    have := same_f [20, 3, 34] [20, 3, 34] (by decide) k (by simp; omega)
    simpa using this⟩ ?_
  simp only [if_true]
  exact Ev.now _

/-! estreatref08.Same -/
theorem same8_l0 (xs ys : List Int) (hl : xs.length = ys.length) (hb : xs.length < 9223372036854775807) : ∀ (d k i : Nat), xs.length = i + d → d < k → estreatref08_Same.l0 k xs ys i = some (decide (xs.drop i = ys.drop i)) := by
  intro d
  induction d with
  | zero =>
    intro k i hd hk
    obtain ⟨k, rfl⟩ : ∃ m, k = m + 1 := ⟨k - 1, by omega⟩
    simp only [estreatref08_Same.l0]; rw [if_neg (by omega), List.drop_of_length_le (by omega), List.drop_of_length_le (by omega)]; simp
  | succ d ih =>
    intro k i hd hk
    obtain ⟨k, rfl⟩ : ∃ m, k = m + 1 := ⟨k - 1, by omega⟩
    simp only [estreatref08_Same.l0]
    have := ih k (i + 1) (by omega) (by omega)
    simp only [Int.natCast_add, Int.natCast_one] at this
    rw [if_pos (by omega), if_pos (by omega), if_pos (by omega), rd_get (by omega), rd_get (by omega), w64 (by omega) (by omega), this]
    have ex : xs.drop i = xs[i] :: xs.drop (i + 1) := List.drop_eq_getElem_cons (by omega)
    have ey : ys.drop i = ys[i] :: ys.drop (i + 1) := List.drop_eq_getElem_cons (by omega)
    rw [ex, ey]
    by_cases h : xs[i] = ys[i]
    · rw [if_pos h, h]; simp only [List.cons.injEq, true_and]
    · rw [if_neg h, decide_eq_false]; simp only [List.cons.injEq, h, false_and, not_false_eq_true]
theorem same8_f (xs ys : List Int) (hb : xs.length < 9223372036854775807) : Ev (fun k => estreatref08_Same.f k xs ys) (decide (xs = ys)) := by
  refine ⟨xs.length + 1, fun k hk => ?_⟩
  show estreatref08_Same.f k xs ys = _
  unfold estreatref08_Same.f
  by_cases h : xs.length = ys.length
  · rw [if_pos (by omega)]
    have := same8_l0 xs ys h hb xs.length k 0 (by omega) hk
    simpa using this
  · rw [if_neg (by omega)]
    have : xs ≠ ys := fun e => h (by rw [e])
    simp [this]

def dshift (c : Int) (l : List Int) : List Int := l.map (fun x => wrap64 (x + c))
theorem steps_shift (c : Int) : ∀ (l : List Int) (a b : Int), wrap64 (b - (a + c)) = 0 → steps b (dshift c l) = steps a l := by
  intro l
  induction l with
  | nil => intro a b _; rfl
  | cons x l ih =>
    intro a b h
    show wrap64 (wrap64 (x + c) - b) :: steps (wrap64 (x + c)) (dshift c l) = wrap64 (x - a) :: steps x l
    rw [ih x (wrap64 (x + c)) (by unfold wrap64; omega)]
    congr 1
    unfold wrap64 at *
    omega
def drestOf : List Int → List Int
  | [] => []
  | y :: r => (maxW (y :: r) : Int) :: (packed (y :: r) (maxW (y :: r))).1
theorem deltaForm_one (z : Int) : deltaForm [z] = leb z.toNat := by rw [deltaForm]
theorem deltaForm_two (z y : Int) (r : List Int) : deltaForm (z :: y :: r) = leb z.toNat ++ ((maxW (y :: r) : Int) :: (packed (y :: r) (maxW (y :: r))).1) := by
  rw [deltaForm, List.append_assoc, List.singleton_append]
theorem deltaForm_split (z : Int) (L : List Int) : deltaForm (z :: L) = leb z.toNat ++ drestOf L := by
  cases L with
  | nil => rw [deltaForm_one, drestOf, List.append_nil]
  | cons y r => rw [deltaForm_two, drestOf]
theorem deltaOf_split (x : Int) (t : List Int) : deltaOf (x :: t) = leb (zz (wrap64 (x - 0))).toNat ++ drestOf ((steps x t).map zz) := by
  unfold deltaOf
  rw [steps, List.map_cons, deltaForm_split]
theorem refvar_zd {m : Int} (hm : I64 m) : Ev (fun k => estreatref01_Var.f k (zz m)) (leb (zz m).toNat) := by
  have hz := zz_range hm.1 hm.2
  exact ⟨10, fun k hk => refvar hz.1 hz.2 hk⟩
theorem same_evd (x : List Int) (hx : x.length ≤ 1000000) : Ev (fun k => estreatref01_Same.f k x x) true := ⟨x.length + 1, fun k hk => by
  have := same_f x x (by omega) k (by omega)
  simpa using this⟩
theorem dshift_end (x : Int) (t : List Int) (c : Int) (hn : (x :: t).length ≤ 200) (hw : ∀ y ∈ x :: t, I64 y) (hc : I64 c) :
    Ev (fun k => estreatlaw10_DeltaShift.l0 k (x :: t) c (dshift c (x :: t)) (x :: t).length) true := by
  have hx := hw x (by simp)
  have hl2 : (dshift c (x :: t)).length = (x :: t).length := List.length_map _
  have s1 := steps_f (x :: t) (by omega)
  have s2 := steps_f (dshift c (x :: t)) (by omega)
  have f1 := deltaput_f (x :: t) (by omega)
  have f2 := deltaput_f (dshift c (x :: t)) (by omega)
  have hst : steps (wrap64 (x + c)) (dshift c t) = steps x t := steps_shift c t x _ (by unfold wrap64; omega)
  have e1 : steps 0 (x :: t) = wrap64 (x - 0) :: steps x t := rfl
  have e2 : steps 0 (dshift c (x :: t)) = wrap64 (wrap64 (x + c) - 0) :: steps x t := by
    show wrap64 (wrap64 (x + c) - 0) :: steps (wrap64 (x + c)) (dshift c t) = _
    rw [hst]
  have x0 : wrap64 (x - 0) = x := by unfold I64 at hx; unfold wrap64; omega
  have x1 : wrap64 (wrap64 (x + c) - 0) = wrap64 (x + c) := by unfold wrap64; omega
  have hxc := wrap_i64 (x + c)
  have d1 := deltaOf_split x t
  have d2 : deltaOf (dshift c (x :: t)) = leb (zz (wrap64 (wrap64 (x + c) - 0))).toNat ++ drestOf ((steps x t).map zz) := by
    show deltaOf (wrap64 (x + c) :: dshift c t) = _
    rw [deltaOf_split, hst]
  have g1 : (deltaOf (x :: t)).length ≤ 8 * (x :: t).length + 11 := by
    have := deltaForm_length ((steps 0 (x :: t)).map zz) (by rw [List.length_map, steps_length]; omega) (zz_u64 _ (steps_i64 _ _))
    rw [List.length_map, steps_length] at this
    exact this
  rw [x0] at e1 d1
  rw [x1] at e2 d2
  rw [d1] at f1 g1
  rw [d2] at f2
  rw [e1] at s1
  rw [e2] at s2
  have hsl : (steps x t).length = t.length := steps_length t x
  have hz1 := refzig_f hx.1 hx.2
  have hz2 := refzig_f hxc.1 hxc.2
  have hv1 := refvar_zd hx
  have hv2 := refvar_zd hxc
  have hrd1 : rd (x :: t) 0 = x := rfl
  have hrd2 : rd (dshift c (x :: t)) 0 = wrap64 (x + c) := rfl
  have hlen : ((x :: t).length : Int) = (t.length : Int) + 1 := by simp
  have hs8 := same8_f (steps x t) (steps x t) (by omega)
  generalize drestOf ((steps x t).map zz) = R at *
  refine Ev.step (f := fun k => _) (fun k => by
    simp only [estreatlaw10_DeltaShift.l0]
    rw [if_neg (Int.lt_irrefl _)]) ?_
  refine Ev.bind s1 ?_
  refine Ev.bind s2 ?_
  refine Ev.bind f1 ?_
  refine Ev.bind f2 ?_
  have c1 : ((x :: steps x t).length : Int) = ((x :: t).length : Int) := by rw [List.length_cons, List.length_cons, hsl]
  have c2 : ((wrap64 (x + c) :: steps x t).length : Int) = ((x :: t).length : Int) := by rw [List.length_cons, List.length_cons, hsl]
  have c3 : (0 : Int) < ((x :: steps x t).length : Int) := by rw [c1, hlen]; omega
  have c4 : (0 : Int) < ((wrap64 (x + c) :: steps x t).length : Int) := by rw [c2, hlen]; omega
  have r1 : rd (x :: steps x t) 0 = x := rfl
  have r2 : rd (wrap64 (x + c) :: steps x t) 0 = wrap64 (x + c) := rfl
  simp only [if_true, if_pos c1, if_pos c2, if_pos c3, if_pos c4, r1, r2, bne_self_eq_false]
  have c5 : (0 : Int) < ((x :: t).length : Int) := by omega
  have c6 : (0 : Int) < ((dshift c (x :: t)).length : Int) := by rw [hl2]; omega
  have c7 : (1 : Int) ≤ ((x :: steps x t).length : Int) := by omega
  have c8 : (1 : Int) ≤ ((wrap64 (x + c) :: steps x t).length : Int) := by omega
  simp only [if_pos c5, hrd1, hz1]
  refine Ev.bind (Ev.now _) ?_
  refine Ev.bind hv1 ?_
  simp only [if_pos c6, hrd2, hz2]
  refine Ev.bind (Ev.now _) ?_
  refine Ev.bind hv2 ?_
  simp only [if_pos c7, if_pos c8, List.drop_succ_cons, List.drop_zero]
  refine Ev.bind hs8 ?_
  generalize leb (zz x).toNat = A at *
  generalize leb (zz (wrap64 (x + c))).toNat = B at *
  rw [List.length_append] at g1
  have c9 : ((A ++ R).length : Int) ≥ (A.length : Int) := by rw [List.length_append]; omega
  have c10 : ((B ++ R).length : Int) ≥ (B.length : Int) := by rw [List.length_append]; omega
  have c11 : (A.length : Int) ≤ ((A ++ R).length : Int) := c9
  have c12 : (B.length : Int) ≤ ((B ++ R).length : Int) := c10
  simp only [decide_true, if_true, if_pos c9, if_pos c10, if_pos (Int.natCast_nonneg A.length), if_pos c11, if_pos (Int.natCast_nonneg B.length), if_pos c12, Int.toNat_natCast, List.drop_left]
  refine Ev.bind (same_evd R (by omega)) ?_
  simp only [if_true]
  exact Ev.bind deltaawake (Ev.now _)
theorem dshift_l0 (l : List Int) (c : Int) (hn : l.length ≤ 200) (res : Bool) (h : Ev (fun k => estreatlaw10_DeltaShift.l0 k l c (dshift c l) l.length) res) :
    ∀ (d i : Nat), l.length = i + d → Ev (fun k => estreatlaw10_DeltaShift.l0 k l c (dshift c (l.take i)) i) res := by
  intro d
  induction d with
  | zero =>
    intro i hd
    have hi : i = l.length := by omega
    subst hi
    rw [List.take_of_length_le (Nat.le_refl _)]
    exact h
  | succ d ih =>
    intro i hd
    have hi : i < l.length := by omega
    have hn2 := ih (i + 1) (by omega)
    have et : l.take (i + 1) = l.take i ++ [l[i]] := List.take_succ_eq_append_getElem hi
    have es : dshift c (l.take i ++ [l[i]]) = dshift c (l.take i) ++ [wrap64 (l[i] + c)] := by unfold dshift; rw [List.map_append, List.map_cons, List.map_nil]
    rw [et, es] at hn2
    have e1 : wrap64 ((i : Int) + 1) = ((i + 1 : Nat) : Int) := by rw [w64 (by omega) (by omega)]; rfl
    have c2 : (dshift c (l.take i)).length < 17592186044416 := by unfold dshift; rw [List.length_map, List.length_take]; omega
    refine Ev.step (fun k => ?_) hn2
    simp only [estreatlaw10_DeltaShift.l0]
    rw [if_pos (Int.ofNat_lt.2 hi), if_pos (Int.natCast_nonneg _), if_pos c2, rd_get hi, e1]
theorem DeltaShift : estreatlaw10_DeltaShift.Pure := by
  intro l c hm hs hl hc
  have hw : ∀ x ∈ l, I64 x := fun x hx => wf_i64 (hl x hx)
  have hc' : I64 c := wf_i64 hc
  refine Ev.rounds ?_
  unfold estreatlaw10_DeltaShift.f
  by_cases c0 : (l.length : Int) > 200
  · simp only [if_pos c0]; exact Ev.bind deltaawake (Ev.now _)
  simp only [if_neg c0]
  cases l with
  | nil => exact Ev.bind deltaawake (Ev.now _)
  | cons x t =>
    have e : ¬ (((x :: t).length : Int) = 0) := by simp only [List.length_cons]; omega
    simp only [if_neg e]
    exact dshift_l0 (x :: t) c (by omega) true (dshift_end x t c (by omega) hw hc') (x :: t).length 0 (by omega)

end Go.Proofs.Ytieddojplhmhgaa.Pure
