/- What estreatlaw13.TextsBack computes is true for any texts, bytes, count and number. -/
import Derived.Test.YtbkocklahdlgkaaDoorPTextsBackx9
import Derived.Lib.Zigzag
import Derived.Lib.BitFns
namespace Go.Proofs.YtbkocklahdlgkaaDoor.Pure
open Go.RowKit Go.Proofs.YtbkocklahdlgkaaDoor.PTextsBack Go.Proofs.YtbkocklahdlgkaaDoorW.PrintWords Go.Proofs.YtbkocklahdlgkaaDoorW.PrintLast Go.Proofs.YtbkocklahdlgkaaDoorW.PrintMore

/-! words of this session: plain facts on numbers and lists -/
theorem w64 {n : Int} (h0 : -9223372036854775808 ≤ n) (h1 : n ≤ 9223372036854775807) : wrap64 n = n := by unfold wrap64; omega
theorem u64w (n : Int) : IntKind.u64.wrap n = n % 18446744073709551616 := by simp [IntKind.wrap, IntKind.bits, IntKind.signed]
theorem u64w_id {n : Int} (h0 : 0 ≤ n) (h1 : n < 18446744073709551616) : IntKind.u64.wrap n = n := by rw [u64w]; omega
theorem rd_get {xs : List Int} {i : Nat} (h : i < xs.length) : rd xs (i : Int) = xs[i] := by simp [rd, h]
theorem wf_u8 {x : Int} (h : (Lit.int .u8 x).wf = true) : 0 ≤ x ∧ x < 256 := by
  simp [Lit.wf, IntKind.min, IntKind.max, IntKind.signed, IntKind.bits] at h; omega
theorem dropc {α : Type} (l : List α) (i : Nat) (h : i < l.length) : l.drop i = l[i] :: l.drop (i + 1) := List.drop_eq_getElem_cons h

/-! estreatref01.Same: are two lists one? -/
theorem same_l0 (xs ys : List Int) (hl : xs.length = ys.length) (hb : xs.length < 9223372036854775807) : ∀ (d k i : Nat), xs.length = i + d → d < k → estreatref01_Same.l0 k xs ys i = some (decide (xs.drop i = ys.drop i)) := by
  intro d
  induction d with
  | zero =>
    intro k i hd hk
    obtain ⟨k, rfl⟩ : ∃ m, k = m + 1 := ⟨k - 1, by omega⟩
    simp only [estreatref01_Same.l0]; rw [if_neg (by omega), List.drop_of_length_le (by omega), List.drop_of_length_le (by omega)]; simp
  | succ d ih =>
    intro k i hd hk
    obtain ⟨k, rfl⟩ : ∃ m, k = m + 1 := ⟨k - 1, by omega⟩
    simp only [estreatref01_Same.l0]
    have := ih k (i + 1) (by omega) (by omega)
    simp only [Int.natCast_add, Int.natCast_one] at this
    rw [if_pos (by omega), if_pos (by omega), if_pos (by omega), rd_get (by omega), rd_get (by omega), w64 (by omega) (by omega), this]
    have ex : xs.drop i = xs[i] :: xs.drop (i + 1) := List.drop_eq_getElem_cons (by omega)
    have ey : ys.drop i = ys[i] :: ys.drop (i + 1) := List.drop_eq_getElem_cons (by omega)
    rw [ex, ey]
    by_cases h : xs[i] = ys[i]
    · rw [if_pos h, h]; simp only [List.cons.injEq, true_and]
    · rw [if_neg h, decide_eq_false]; simp only [List.cons.injEq, h, false_and, not_false_eq_true]
theorem same_f (xs ys : List Int) (hb : xs.length < 9223372036854775807) : ∀ k, xs.length < k → estreatref01_Same.f k xs ys = some (decide (xs = ys)) := by
  intro k hk
  unfold estreatref01_Same.f
  by_cases h : xs.length = ys.length
  · rw [if_pos (by omega)]
    have := same_l0 xs ys h hb xs.length k 0 (by omega) hk
    simpa using this
  · rw [if_neg (by omega)]
    have : xs ≠ ys := fun e => h (by rw [e])
    simp [this]

/-! the short number of a number, and what puts it -/
def leb (v : Nat) : List Int := if h : v < 128 then [(v : Int)] else ((v % 128 + 128 : Nat) : Int) :: leb (v / 128)
theorem leb_small {v : Nat} (h : v < 128) : leb v = [(v : Int)] := by rw [leb, dif_pos h]
theorem leb_big {v : Nat} (h : ¬ v < 128) : leb v = ((v % 128 + 128 : Nat) : Int) :: leb (v / 128) := by rw [leb, dif_neg h]
theorem leb_length : ∀ (n v : Nat), v < 128 ^ (n + 1) → (leb v).length ≤ n + 1 := by
  intro n
  induction n with
  | zero => intro v h; rw [leb_small (by simpa using h)]; simp
  | succ n ih =>
    intro v h
    by_cases hv : v < 128
    · rw [leb_small hv]; simp
    · rw [leb_big hv, List.length_cons]
      have := ih (v / 128) (by rw [Nat.div_lt_iff_lt_mul (by decide)]; rw [Nat.pow_succ] at h; omega)
      omega
theorem p128 : (18446744073709551616 : Nat) < 128 ^ (9 + 1) := by decide
theorem leb_length10 {v : Nat} (h : v < 18446744073709551616) : (leb v).length ≤ 10 := leb_length 9 v (Nat.lt_trans h p128)

theorem putvar_l0 : ∀ (n k v : Nat) (b : List Int), v < 128 ^ (n + 1) → n < k → b.length + n < 140737488355328 → num_PutVar.l0 k b v = some (b ++ leb v) := by
  intro n
  induction n with
  | zero =>
    intro k v b hv hk hb
    obtain ⟨k, rfl⟩ : ∃ m, k = m + 1 := ⟨k - 1, by omega⟩
    simp only [num_PutVar.l0]
    rw [if_neg (by omega), if_pos (by omega), leb_small (by omega)]
    rw [Int.emod_eq_of_lt (by omega) (by omega)]
  | succ n ih =>
    intro k v b hv hk hb
    obtain ⟨k, rfl⟩ : ∃ m, k = m + 1 := ⟨k - 1, by omega⟩
    simp only [num_PutVar.l0]
    by_cases h : v < 128
    · rw [if_neg (by omega), if_pos (by omega), leb_small h, Int.emod_eq_of_lt (by omega) (by omega)]
    · rw [if_pos (by omega), if_pos (by omega), Lib.u8_or128_any _ (by omega) (by omega), leb_big h]
      have e : (v : Int) / 128 = ((v / 128 : Nat) : Int) := by omega
      rw [e, ih k (v / 128) _ (by rw [Nat.div_lt_iff_lt_mul (by decide)]; rw [Nat.pow_succ] at hv; omega) (by omega) (by simp; omega)]
      have e2 : (v : Int) % 256 % 128 + 128 = ((v % 128 + 128 : Nat) : Int) := by omega
      rw [e2]; simp
theorem putvar_f {v : Int} {b : List Int} {k : Nat} (h0 : 0 ≤ v) (h1 : v < 18446744073709551616) (hk : 10 ≤ k) (hb : b.length < 140737488000000) : num_PutVar.f k b v = some (b ++ leb v.toNat) := by
  obtain ⟨n, rfl⟩ := Int.eq_ofNat_of_zero_le h0
  unfold num_PutVar.f
  exact putvar_l0 9 k n b (Nat.lt_trans (by omega) p128) (by omega) (by omega)

/-! bytes as one number, and back -/
def leN : List Int → Nat
  | [] => 0
  | x :: xs => x.toNat + 256 * leN xs
def digs : Nat → Nat → List Int
  | 0, _ => []
  | s + 1, N => ((N % 256 : Nat) : Int) :: digs s (N / 256)
def Bytes (xs : List Int) : Prop := ∀ x ∈ xs, 0 ≤ x ∧ x < 256
theorem digs_length : ∀ s N, (digs s N).length = s := by
  intro s; induction s with
  | zero => intro N; rfl
  | succ s ih => intro N; simp [digs, ih]
theorem digs_leN : ∀ (xs : List Int), Bytes xs → digs xs.length (leN xs) = xs := by
  intro xs; induction xs with
  | nil => intro _; rfl
  | cons x xs ih =>
    intro h
    have hx := h x (by simp)
    have := ih (fun y hy => h y (by simp [hy]))
    simp only [List.length_cons, digs, leN]
    have e1 : (x.toNat + 256 * leN xs) % 256 = x.toNat := by omega
    have e2 : (x.toNat + 256 * leN xs) / 256 = leN xs := by omega
    rw [e1, e2, this, Int.toNat_of_nonneg hx.1]
theorem leN_digs : ∀ s N, N < 256 ^ s → leN (digs s N) = N := by
  intro s; induction s with
  | zero => intro N h; simp at h; simp [digs, leN, h]
  | succ s ih =>
    intro N h
    simp only [digs, leN]
    rw [ih (N / 256) (by rw [Nat.div_lt_iff_lt_mul (by decide)]; rw [Nat.pow_succ] at h; exact h)]
    omega
theorem digs_bytes : ∀ s N, Bytes (digs s N) := by
  intro s; induction s with
  | zero => intro N x hx; simp [digs] at hx
  | succ s ih =>
    intro N x hx
    simp only [digs, List.mem_cons] at hx
    rcases hx with rfl | hx
    · omega
    · exact ih _ x hx
theorem leN_set : ∀ (xs : List Int) (q : Nat) (v d : Int) (h : q < xs.length), 0 ≤ xs[q] → 0 ≤ d → v = xs[q] + d → leN (xs.set q v) = leN xs + 256 ^ q * d.toNat := by
  intro xs; induction xs with
  | nil => intro q v d h; simp at h
  | cons x xs ih =>
    intro q v d h h0 hd hv
    cases q with
    | zero =>
      simp only [List.getElem_cons_zero] at h0 hv
      simp only [List.set_cons_zero, leN, Nat.pow_zero, Nat.one_mul]; omega
    | succ q =>
      simp only [List.getElem_cons_succ] at h0 hv
      have := ih q v d (by simpa using h) h0 hd hv
      simp only [List.set_cons_succ, leN, this, Nat.pow_succ, Nat.mul_add]
      have : 256 * (256 ^ q * d.toNat) = 256 ^ q * 256 * d.toNat := by rw [Nat.mul_comm (256 ^ q) 256, Nat.mul_assoc]
      omega
theorem leN_lt : ∀ (xs : List Int), Bytes xs → leN xs < 256 ^ xs.length := by
  intro xs; induction xs with
  | nil => intro _; simp [leN]
  | cons x xs ih =>
    intro h
    have hx := h x (by simp)
    have := ih (fun y hy => h y (by simp [hy]))
    simp only [leN, List.length_cons, Nat.pow_succ]; omega
theorem leN_at : ∀ (xs : List Int) (q : Nat) (h : q < xs.length), Bytes xs → (xs[q]).toNat = leN xs / 256 ^ q % 256 := by
  intro xs; induction xs with
  | nil => intro q h; simp at h
  | cons x xs ih =>
    intro q h hb
    have hx := hb x (by simp)
    cases q with
    | zero => simp only [List.getElem_cons_zero, leN, Nat.pow_zero, Nat.div_one]; omega
    | succ q =>
      have := ih q (by simpa using h) (fun y hy => hb y (by simp [hy]))
      simp only [List.getElem_cons_succ, leN, this, Nat.pow_succ]
      rw [Nat.mul_comm (256 ^ q) 256, ← Nat.div_div_eq_div_mul]
      have e : (x.toNat + 256 * leN xs) / 256 = leN xs := by omega
      rw [e]
theorem leN_zeros : ∀ n, leN (List.replicate n 0) = 0 := by
  intro n; induction n with
  | zero => rfl
  | succ n ih => simp [List.replicate_succ, leN, ih]
/-- numbers of w bits each as one number -/
def numN (w : Nat) : List Int → Nat
  | [] => 0
  | x :: xs => x.toNat + 2 ^ w * numN w xs
theorem numN_append (w : Nat) : ∀ (xs ys : List Int), numN w (xs ++ ys) = numN w xs + 2 ^ (w * xs.length) * numN w ys := by
  intro xs; induction xs with
  | nil => intro ys; simp [numN]
  | cons x xs ih =>
    intro ys
    simp only [List.cons_append, numN, ih, List.length_cons, Nat.mul_add, Nat.mul_one, Nat.pow_add]
    have : 2 ^ w * (2 ^ (w * xs.length) * numN w ys) = 2 ^ (w * xs.length) * 2 ^ w * numN w ys := by rw [Nat.mul_comm (2 ^ (w * xs.length)) (2 ^ w), Nat.mul_assoc]
    omega
theorem numN_lt (w : Nat) : ∀ (xs : List Int), (∀ x ∈ xs, x.toNat < 2 ^ w) → numN w xs < 2 ^ (w * xs.length) := by
  intro xs; induction xs with
  | nil => intro _; simp [numN]
  | cons x xs ih =>
    intro h
    have hx := h x (by simp)
    have := ih (fun y hy => h y (by simp [hy]))
    simp only [numN, List.length_cons, Nat.mul_add, Nat.mul_one, Nat.pow_add]
    have : 2 ^ w * (numN w xs + 1) ≤ 2 ^ w * 2 ^ (w * xs.length) := Nat.mul_le_mul_left _ (by omega)
    rw [Nat.mul_add, Nat.mul_one, Nat.mul_comm (2 ^ w) (2 ^ (w * xs.length))] at this
    omega

/-! bits.Size, fits, Pack -/
def sizeN (n w : Nat) : Nat := (n * w + 7) / 8
def okSize (n w : Int) : Prop := 0 ≤ n ∧ n ≤ 65536 ∧ 0 ≤ w ∧ w ≤ 64
instance (n w : Int) : Decidable (okSize n w) := inferInstanceAs (Decidable (_ ∧ _))
theorem mul_le_64 {n w : Int} (h : okSize n w) : 0 ≤ n * w ∧ n * w ≤ 65536 * 64 :=
  ⟨Int.mul_nonneg h.1 h.2.2.1, Int.le_trans (Int.mul_le_mul_of_nonneg_right h.2.1 h.2.2.1) (Int.mul_le_mul_of_nonneg_left h.2.2.2 (by decide))⟩
theorem size_f (n w : Int) : bits_Size.f n w = some (if okSize n w then ((sizeN n.toNat w.toNat : Nat) : Int) else -1) := by
  unfold bits_Size.f
  by_cases h : okSize n w
  · have hm := mul_le_64 h
    have hh := h
    obtain ⟨h1, h2, h3, h4⟩ := hh
    rw [if_neg (by omega), if_neg (by omega), if_neg (by omega), if_neg (by omega), if_pos h, w64 (n := n * w) (by omega) (by omega), w64 (n := n * w + 7) (by omega) (by omega), Int.tdiv_eq_ediv_of_nonneg (by omega), w64 (by omega) (by omega)]
    have e : n * w = ((n.toNat * w.toNat : Nat) : Int) := by
      rw [Int.natCast_mul, Int.toNat_of_nonneg h1, Int.toNat_of_nonneg h3]
    unfold sizeN; rw [e]; congr 1
  · rw [if_neg h]
    unfold okSize at h
    by_cases c1 : n < 0
    · rw [if_pos c1]
    rw [if_neg c1]
    by_cases c2 : n > 65536
    · rw [if_pos c2]
    rw [if_neg c2]
    by_cases c3 : w < 0
    · rw [if_pos c3]
    rw [if_neg c3]
    by_cases c4 : w > 64
    · rw [if_pos c4]
    exact absurd ⟨by omega, by omega, by omega, by omega⟩ h
theorem shr64 {x : Int} {n : Nat} (h0 : 0 ≤ x) (h1 : x < 18446744073709551616) : shr .u64 x n = ((x.toNat / 2 ^ n : Nat) : Int) := by
  obtain ⟨a, rfl⟩ := Int.eq_ofNat_of_zero_le h0
  have ha : a < 2 ^ 64 := by omega
  unfold shr
  have hb : IntKind.u64.bits = 64 := rfl
  rw [hb]
  show (a : Int) / 2 ^ min (n : Int).toNat 64 = _
  rw [Int.toNat_natCast]
  by_cases h : n ≤ 64
  · rw [Nat.min_eq_left h]; simp
  · rw [Nat.min_eq_right (by omega)]
    have h64 : (2 : Nat) ^ 64 ≤ 2 ^ n := Nat.pow_le_pow_right (by decide) (by omega)
    have e1 : a / 2 ^ n = 0 := Nat.div_eq_of_lt (by omega)
    have e2 : a / 2 ^ 64 = 0 := Nat.div_eq_of_lt ha
    have : ((a / 2 ^ 64 : Nat) : Int) = (a : Int) / 2 ^ 64 := by simp
    rw [Int.toNat_natCast, e1, ← this, e2]
theorem fits_f {v w : Int} (h0 : 0 ≤ v) (h1 : v < 18446744073709551616) (hw0 : 0 ≤ w) (hw : w ≤ 64) : bits_fits.f v w = some (decide (v.toNat < 2 ^ w.toNat)) := by
  obtain ⟨n, rfl⟩ := Int.eq_ofNat_of_zero_le hw0
  unfold bits_fits.f
  by_cases c : (n : Int) = 64
  · rw [if_pos c]
    have : n = 64 := by omega
    subst this
    rw [decide_eq_true]; simp; omega
  · rw [if_neg c, u64w_id (by omega) (by omega), if_pos (by omega), shr64 h0 h1]
    congr 1
    rw [Int.toNat_natCast, Bool.eq_iff_iff]
    simp only [beq_iff_eq, decide_eq_true_eq]
    constructor
    · intro h
      have h2 : v.toNat / 2 ^ n = 0 := by omega
      rcases Nat.div_eq_zero_iff.1 h2 with h3 | h3
      · exact absurd h3 (Nat.ne_of_gt (Nat.two_pow_pos n))
      · exact h3
    · intro h
      rw [Nat.div_eq_of_lt h]; rfl
theorem pow8 (q r : Nat) : 2 ^ (8 * q + r) = 256 ^ q * 2 ^ r := by rw [Nat.pow_add, Nat.pow_mul]
theorem pack_step (S v q r take : Nat) (hr : r < 8) (ht : take ≤ 8 - r) (hc : take = 8 - r ∨ v < 2 ^ take) :
    S + 256 ^ q * (v * 2 ^ r % 256) + (v / 2 ^ take) * 2 ^ (8 * q + r + take) = S + v * 2 ^ (8 * q + r) := by
  rw [show 8 * q + r + take = 8 * q + (r + take) by omega, pow8, pow8]
  have key : v * 2 ^ r % 256 + (v / 2 ^ take) * 2 ^ (r + take) = v * 2 ^ r := by
    rcases hc with h | h
    · subst h
      have e : r + (8 - r) = 8 := by omega
      rw [e]
      have e2 : v * 2 ^ r / 256 = v / 2 ^ (8 - r) := by
        have : (256 : Nat) = 2 ^ (8 - r) * 2 ^ r := by rw [← Nat.pow_add, show 8 - r + r = 8 by omega]
        rw [this, Nat.mul_div_mul_right _ _ (Nat.two_pow_pos r)]
      rw [← e2]
      have := Nat.mod_add_div (v * 2 ^ r) 256
      omega
    · have e : v / 2 ^ take = 0 := Nat.div_eq_of_lt h
      rw [e, Nat.zero_mul, Nat.add_zero]
      apply Nat.mod_eq_of_lt
      have h1 : v * 2 ^ r < 2 ^ take * 2 ^ r := Nat.mul_lt_mul_of_pos_right h (Nat.two_pow_pos r)
      rw [← Nat.pow_add] at h1
      have h2 : 2 ^ (take + r) ≤ 2 ^ 8 := Nat.pow_le_pow_right (by decide) (by omega)
      omega
  have : (v / 2 ^ take) * (256 ^ q * 2 ^ (r + take)) = 256 ^ q * ((v / 2 ^ take) * 2 ^ (r + take)) := by rw [← Nat.mul_assoc, Nat.mul_comm (v / 2 ^ take), Nat.mul_assoc]
  rw [this, Nat.add_assoc, ← Nat.mul_add, key, ← Nat.mul_assoc, Nat.mul_comm (256 ^ q) v, Nat.mul_assoc]
theorem or_u8 {a b : Int} {r : Nat} (hr : r < 8) (ha0 : 0 ≤ a) (ha : a.toNat < 2 ^ r) (hb0 : 0 ≤ b) (hb : b < 256) (hd : b.toNat % 2 ^ r = 0) : bits .or .u8 a b = a + b := by
  obtain ⟨m, rfl⟩ := Int.eq_ofNat_of_zero_le ha0
  obtain ⟨n, rfl⟩ := Int.eq_ofNat_of_zero_le hb0
  simp only [Int.toNat_natCast] at ha hd
  have h8 : 2 ^ r ≤ 2 ^ 8 := Nat.pow_le_pow_right (by decide) (by omega)
  rw [(bits_nat .u8 8 (by decide) wraps_u8 m n (by omega) (by omega)).2, Nat.or_comm]
  have hq : n = 2 ^ r * (n / 2 ^ r) := by have := Nat.div_add_mod n (2 ^ r); omega
  rw [hq, ← Nat.two_pow_add_eq_or_of_lt ha (n / 2 ^ r), Int.natCast_add]; omega
theorem shl8 {x : Int} {r : Nat} (h0 : 0 ≤ x) (hr : r < 8) : shl .u8 (x % 256) r = ((x.toNat * 2 ^ r % 256 : Nat) : Int) := by
  obtain ⟨a, rfl⟩ := Int.eq_ofNat_of_zero_le h0
  unfold shl
  have hb : IntKind.u8.bits = 8 := rfl
  rw [hb, Int.toNat_natCast, Nat.min_eq_left (by omega), IntKind.wrap_u8]
  rw [Int.toNat_natCast, Int.mul_emod, Int.emod_emod, ← Int.mul_emod]; simp

theorem pack_byte (out : List Int) (q r v take : Nat) (hr : r < 8) (hqlen : q < out.length) (hb : Bytes out) (hN : leN out < 2 ^ (8 * q + r)) (hcase : take = 8 - r ∨ v < 2 ^ take) :
    ∃ d : Nat, d = v * 2 ^ r % 256 ∧ bits .or .u8 (out[q]) ((d : Nat) : Int) = out[q] + (d : Int) ∧ Bytes (out.set q (out[q] + (d : Int))) ∧ leN (out.set q (out[q] + (d : Int))) = leN out + 256 ^ q * d ∧ leN (out.set q (out[q] + (d : Int))) < 2 ^ (8 * q + r + take) := by
      have hbq := hb out[q] (List.getElem_mem hqlen)
      -- the byte that is turned
      have hat := leN_at out q hqlen hb
      have hsmall : (out[q]).toNat < 2 ^ r := by
        rw [hat]
        have : leN out / 256 ^ q < 2 ^ r := by
          rw [Nat.div_lt_iff_lt_mul (Nat.pow_pos (by decide)), Nat.mul_comm, ← pow8]; exact hN
        exact Nat.lt_of_le_of_lt (Nat.mod_le _ _) this
      have hd0 : v * 2 ^ r % 256 % 2 ^ r = 0 := by
        have : (256 : Nat) = 2 ^ r * 2 ^ (8 - r) := by rw [← Nat.pow_add, show r + (8 - r) = 8 by omega]
        rw [this, Nat.mod_mul_right_mod, Nat.mul_mod_left]
      obtain ⟨d, hd⟩ : ∃ d : Nat, d = v * 2 ^ r % 256 := ⟨_, rfl⟩
      have hd256 : d < 256 := by rw [hd]; exact Nat.mod_lt _ (by decide)
      have hor : bits .or .u8 (out[q]) ((d : Nat) : Int) = out[q] + (d : Int) := by
        refine or_u8 hr hbq.1 hsmall (by omega) (by omega) ?_
        rw [Int.toNat_natCast, hd]; exact hd0
      have hsum : out[q] + (d : Int) < 256 := by
        have h1 : (out[q]).toNat < 2 ^ r := hsmall
        have h2 : d = 2 ^ r * (d / 2 ^ r) := by have := Nat.div_add_mod d (2 ^ r); rw [← hd] at hd0; omega
        have h3 : d / 2 ^ r < 2 ^ (8 - r) := by
          rw [Nat.div_lt_iff_lt_mul (Nat.two_pow_pos r), ← Nat.pow_add, show 8 - r + r = 8 by omega]; exact hd256
        have h4 : 2 ^ r * (d / 2 ^ r + 1) ≤ 2 ^ r * 2 ^ (8 - r) := Nat.mul_le_mul_left _ h3
        rw [← Nat.pow_add, show r + (8 - r) = 8 by omega, Nat.mul_add, Nat.mul_one, ← h2] at h4
        omega
      have hset : leN (out.set q (out[q] + (d : Int))) = leN out + 256 ^ q * d := by
        have := leN_set out q (out[q] + (d : Int)) (d : Int) hqlen hbq.1 (by omega) rfl
        rw [Int.toNat_natCast] at this; exact this
      have hbytes : Bytes (out.set q (out[q] + (d : Int))) := by
        intro x hx
        rcases List.mem_or_eq_of_mem_set hx with h | h
        · exact hb x h
        · omega
      have hNew : leN (out.set q (out[q] + (d : Int))) < 2 ^ (8 * q + r + take) := by
        rw [hset, show 8 * q + r + take = 8 * q + (r + take) by omega, pow8]
        have h1 : leN out < 256 ^ q * 2 ^ r := by rw [← pow8]; exact hN
        have h2 : d + 2 ^ r ≤ 2 ^ (r + take) := by
          have g2 : d = 2 ^ r * (d / 2 ^ r) := by have := Nat.div_add_mod d (2 ^ r); rw [← hd] at hd0; omega
          have g3 : d / 2 ^ r < 2 ^ take := by
            rcases hcase with hc | hc
            · rw [hc, Nat.div_lt_iff_lt_mul (Nat.two_pow_pos r), ← Nat.pow_add, show 8 - r + r = 8 by omega]; exact hd256
            · have : d ≤ v * 2 ^ r := by rw [hd]; exact Nat.mod_le _ _
              rw [Nat.div_lt_iff_lt_mul (Nat.two_pow_pos r)]
              exact Nat.lt_of_le_of_lt this (Nat.mul_lt_mul_of_pos_right hc (Nat.two_pow_pos r))
          have g4 : 2 ^ r * (d / 2 ^ r + 1) ≤ 2 ^ r * 2 ^ take := Nat.mul_le_mul_left _ g3
          rw [← Nat.pow_add, Nat.mul_add, Nat.mul_one, ← g2] at g4
          exact g4
        have h3 : 256 ^ q * (d + 2 ^ r) ≤ 256 ^ q * 2 ^ (r + take) := Nat.mul_le_mul_left _ h2
        rw [Nat.mul_add] at h3
        omega
      exact ⟨d, hd, hor, hbytes, hset, hNew⟩

theorem n64 {v : Nat} (h : v < 18446744073709551616) : (v : Int) < 18446744073709551616 := by omega
theorem pk_q {q r left ol : Nat} (hlen : 8 * q + r + left ≤ 8 * ol) (hol : ol < 10000000) : q < 10000000 := by omega
theorem pk_ql {q r left ol : Nat} (hlen : 8 * q + r + left ≤ 8 * ol) (hz : ¬ left = 0) : q < ol := by omega
theorem pk_case {r left take : Nat} (h : take = min (8 - r) left) : take = 8 - r ∨ take = left := by omega
theorem pk_tl {r left take : Nat} (h : take = min (8 - r) left) : take ≤ left ∧ take ≤ 8 - r := by omega
theorem pk_e1 (q r : Nat) (hr : r < 8) (hq : q < 100000000) : wrap64 (Int.tdiv ((8 * q + r : Nat) : Int) 8) = (q : Int) := by
  have h : Int.tdiv ((8 * q + r : Nat) : Int) 8 = (q : Int) := by
    rw [Int.tdiv_eq_ediv_of_nonneg (Int.natCast_nonneg _)]; omega
  rw [h, w64 (by omega) (by omega)]
theorem pk_e2 (q r : Nat) (hr : r < 8) : Int.tmod ((8 * q + r : Nat) : Int) 8 = (r : Int) := by
  rw [Int.tmod_eq_emod_of_nonneg (Int.natCast_nonneg _)]; omega
theorem pk_e3 (r left take : Nat) (hr : r < 8) (h : take = min (8 - r) left) : mn (wrap64 (8 - (r : Int))) (left : Int) = (take : Int) := by
  rw [w64 (by omega) (by omega)]; unfold mn; split <;> omega
theorem pk_small (q r left take m q' r' ol : Nat) (hr : r < 8) (hq : q < 10000000) (hm : left ≤ m + 1) (h64 : left ≤ 64) (htk : take = min (8 - r) left) (hz : ¬ left = 0) (hqr : 8 * q + r + take = 8 * q' + r') (hr' : r' < 8) (hlen : 8 * q + r + left ≤ 8 * ol) (hol : ol < 10000000) :
    left - take ≤ m ∧ left - take ≤ 64 ∧ q' ≤ ol ∧ 8 * q' + r' + (left - take) ≤ 8 * ol ∧ 8 * q' + r' + (left - take) = 8 * q + r + left ∧ (left : Int) > 0 ∧ 0 ≤ (q : Int) ∧ (q : Int) < (ol : Int) ∧ IntKind.u64.wrap (r : Int) = (r : Int) ∧ 0 ≤ (r : Int) ∧ IntKind.u64.wrap (take : Int) = (take : Int) ∧ 0 ≤ (take : Int) ∧
    wrap64 (((8 * q + r : Nat) : Int) + (take : Int)) = ((8 * q' + r' : Nat) : Int) ∧ wrap64 ((left : Int) - (take : Int)) = ((left - take : Nat) : Int) := by
  refine ⟨by omega, by omega, by omega, by omega, by omega, by omega, by omega, by omega, u64w_id (by omega) (by omega), by omega, u64w_id (by omega) (by omega), by omega, ?_, ?_⟩
  · rw [w64 (by omega) (by omega)]; omega
  · rw [w64 (by omega) (by omega)]; omega
theorem pack_l1 (w : Int) (L : List Int) (n i : Int) : ∀ (m left : Nat) (out : List Int) (q r : Nat) (v : Nat), left ≤ m → left ≤ 64 → r < 8 → out.length < 10000000 → v < 2 ^ left → v < 18446744073709551616 → Bytes out → leN out < 2 ^ (8 * q + r) → 8 * q + r + left ≤ 8 * out.length →
    ∃ out', Bytes out' ∧ out'.length = out.length ∧ leN out' = leN out + v * 2 ^ (8 * q + r) ∧ ∀ res, Ev (fun k => bits_Pack.l0 k w out' ((8 * q + r + left : Nat) : Int) L n (wrap64 (i + 1))) res → Ev (fun k => bits_Pack.l1 k w out ((8 * q + r : Nat) : Int) v left L n i) res := by
  intro m
  induction m with
  | zero =>
    intro left out q r v hm h64 hr hol hv hv64 hb hN hlen
    have hl : left = 0 := by omega
    subst hl
    have hv0 : v = 0 := by simpa using hv
    subst hv0
    refine ⟨out, hb, rfl, by simp, ?_⟩
    intro res h
    refine Ev.step (f := fun k => bits_Pack.l0 k w out ((8 * q + r + 0 : Nat) : Int) L n (wrap64 (i + 1))) (fun k => ?_) h
    simp only [bits_Pack.l1]
    rw [if_neg (by omega), Nat.add_zero]
  | succ m ih =>
    intro left out q r v hm h64 hr hol hv hv64 hb hN hlen
    by_cases hz : left = 0
    · subst hz
      have hv0 : v = 0 := by simpa using hv
      subst hv0
      refine ⟨out, hb, rfl, by simp, ?_⟩
      intro res h
      refine Ev.step (f := fun k => bits_Pack.l0 k w out ((8 * q + r + 0 : Nat) : Int) L n (wrap64 (i + 1))) (fun k => ?_) h
      simp only [bits_Pack.l1]
      rw [if_neg (by omega), Nat.add_zero]
    · obtain ⟨take, htk⟩ : ∃ t, t = min (8 - r) left := ⟨_, rfl⟩
      obtain ⟨htl, ht8⟩ := pk_tl htk
      have hqlen : q < out.length := pk_ql hlen hz
      have hbq := hb out[q] (List.getElem_mem hqlen)
      have e1 := pk_e1 q r hr (Nat.lt_trans (pk_q hlen hol) (by decide))
      have e2 := pk_e2 q r hr
      have e3 := pk_e3 r left take hr htk
      obtain ⟨q', r', hqr, hr'⟩ : ∃ q' r', 8 * q + r + take = 8 * q' + r' ∧ r' < 8 := ⟨(8 * q + r + take) / 8, (8 * q + r + take) % 8, (Nat.div_add_mod _ 8).symm, Nat.mod_lt _ (by decide)⟩
      obtain ⟨g1, g2, g3, g4, g5, p1, p2, p3, p4, p5, p6, p7, t1, t2⟩ := pk_small q r left take m q' r' out.length hr (pk_q hlen hol) hm h64 htk hz hqr hr' hlen hol
      have hcase : take = 8 - r ∨ v < 2 ^ take := (pk_case htk).imp id (fun h => by rw [h]; exact hv)
      obtain ⟨d, hd, hor, hbytes, hset, hNew⟩ := pack_byte out q r v take hr hqlen hb hN hcase
      have hstep := pack_step (leN out) v q r take hr ht8 hcase
      have hvdiv : v / 2 ^ take < 2 ^ (left - take) := by
        rw [Nat.div_lt_iff_lt_mul (Nat.two_pow_pos take), ← Nat.pow_add, Nat.sub_add_cancel htl]; exact hv
      obtain ⟨out', hb', hl', hN', hgo⟩ := ih (left - take) (out.set q (out[q] + (d : Int))) q' r' (v / 2 ^ take) g1 g2 hr' (by rw [List.length_set]; exact hol) hvdiv (Nat.lt_of_le_of_lt (Nat.div_le_self _ _) hv64) hbytes (by rw [← hqr]; exact hNew) (by rw [List.length_set]; exact g4)
      refine ⟨out', hb', by rw [hl', List.length_set], ?_, ?_⟩
      · rw [hN', hset, ← hqr, hd]; exact hstep
      · intro res h
        refine Ev.step (fun k => ?_) (hgo res (by rw [g5]; exact h))
        simp only [bits_Pack.l1]
        rw [if_pos p1, e1, if_pos p2, if_pos p3, e2, p4, if_pos p5, e3, p6, if_pos p7]
        have s2 : shl .u8 ((v : Int) % 256) (r : Int) = ((d : Nat) : Int) := by rw [shl8 (Int.natCast_nonneg _) hr, Int.toNat_natCast, hd]
        have s3 : shr .u64 (v : Int) (take : Int) = ((v / 2 ^ take : Nat) : Int) := by rw [shr64 (Int.natCast_nonneg _) (n64 hv64), Int.toNat_natCast]
        rw [rd_get hqlen, s2, s3, hor, Int.toNat_natCast, t1, t2]

theorem pack_l0 (w : Nat) (hw : w ≤ 64) (L : List Int) (hn : L.length ≤ 65536) (hL : ∀ x ∈ L, 0 ≤ x ∧ x < 18446744073709551616 ∧ x.toNat < 2 ^ w) :
    ∀ (d i : Nat) (out : List Int), L.length = i + d → out.length < 10000000 → Bytes out → leN out = numN w (L.take i) → w * L.length ≤ 8 * out.length →
      Ev (fun k => bits_Pack.l0 k w out ((w * i : Nat) : Int) L L.length i) (digs out.length (numN w L), 0) := by
  intro d
  induction d with
  | zero =>
    intro i out hd hol hb hN hlen
    refine Ev.step (f := fun _ => some (digs out.length (numN w L), 0)) (fun k => ?_) (Ev.now _)
    simp only [bits_Pack.l0]
    rw [if_neg (by omega)]
    have : L.take i = L := List.take_of_length_le (by omega)
    rw [this] at hN
    rw [← hN, digs_leN out hb]
  | succ d ih =>
    intro i out hd hol hb hN hlen
    have hx := hL L[i] (List.getElem_mem (by omega))
    have hwi : w * i ≤ 64 * 65536 := Nat.mul_le_mul hw (by omega)
    have hlt : leN out < 2 ^ (w * i) := by
      rw [hN]
      have := numN_lt w (L.take i) (fun x hx => (hL x (List.mem_of_mem_take hx)).2.2)
      rw [List.length_take, Nat.min_eq_left (by omega)] at this; exact this
    have hqr : w * i = 8 * (w * i / 8) + w * i % 8 := by omega
    have hsum : w * i + w ≤ w * L.length := by
      have : w * (i + 1) ≤ w * L.length := Nat.mul_le_mul_left _ (by omega)
      rw [Nat.mul_add, Nat.mul_one] at this; exact this
    obtain ⟨out', hb', hl', hN', hgo⟩ := pack_l1 (w : Int) L L.length i w w out (w * i / 8) (w * i % 8) (L[i]).toNat (Nat.le_refl _) hw (Nat.mod_lt _ (by decide)) hol hx.2.2 (by omega) hb (by rw [← hqr]; exact hlt) (by rw [← hqr]; omega)
    rw [← hqr] at hN' hgo
    have htake : L.take (i + 1) = L.take i ++ [L[i]] := by rw [List.take_succ_eq_append_getElem (by omega)]
    have hrec := ih (i + 1) out' (by omega) (by rw [hl']; exact hol) hb' (by
      rw [hN', htake, numN_append, List.length_take, Nat.min_eq_left (by omega), hN]
      simp only [numN, Nat.mul_zero, Nat.add_zero]; rw [Nat.mul_comm (L[i]).toNat]) (by rw [hl']; exact hlen)
    rw [hl'] at hrec
    refine Ev.step (fun k => ?_) (hgo _ (by
      rw [w64 (by omega) (by omega)]
      have e1 : w * (i + 1) = w * i + w := by rw [Nat.mul_add, Nat.mul_one]
      rw [e1] at hrec
      simp only [Int.natCast_add, Int.natCast_one] at hrec ⊢
      exact hrec))
    simp only [bits_Pack.l0]
    rw [if_pos (by omega), if_pos (by omega), if_pos (by omega), rd_get (by omega), fits_f hx.1 hx.2.1 (by omega) (by omega), Option.bind_some, Int.toNat_natCast, decide_eq_true hx.2.2, if_pos rfl, Int.toNat_of_nonneg hx.1]
/-- a number that doesn't fit -/
theorem pack_l0_bad (w : Nat) (hw : w ≤ 64) (L : List Int) (hn : L.length ≤ 65536) (hL : ∀ x ∈ L, 0 ≤ x ∧ x < 18446744073709551616) :
    ∀ (d i : Nat) (out : List Int), L.length = i + d → (∃ x ∈ L.drop i, ¬ x.toNat < 2 ^ w) → (∀ x ∈ L.take i, x.toNat < 2 ^ w) → out.length < 10000000 → Bytes out → leN out = numN w (L.take i) → w * L.length ≤ 8 * out.length →
      Ev (fun k => bits_Pack.l0 k w out ((w * i : Nat) : Int) L L.length i) ([], 5) := by
  intro d
  induction d with
  | zero =>
    intro i out hd hbad _ _ hb hN hlen
    obtain ⟨x, hx, _⟩ := hbad
    rw [List.drop_of_length_le (by omega)] at hx; simp at hx
  | succ d ih =>
    intro i out hd hbad hgood hol hb hN hlen
    have hx := hL L[i] (List.getElem_mem (by omega))
    by_cases hf : (L[i]).toNat < 2 ^ w
    · have hwi : w * i ≤ 64 * 65536 := Nat.mul_le_mul hw (by omega)
      have hlt : leN out < 2 ^ (w * i) := by
        rw [hN]
        have := numN_lt w (L.take i) hgood
        rw [List.length_take, Nat.min_eq_left (by omega)] at this; exact this
      have hqr : w * i = 8 * (w * i / 8) + w * i % 8 := by omega
      have hsum : w * i + w ≤ w * L.length := by
        have : w * (i + 1) ≤ w * L.length := Nat.mul_le_mul_left _ (by omega)
        rw [Nat.mul_add, Nat.mul_one] at this; exact this
      obtain ⟨out', hb', hl', hN', hgo⟩ := pack_l1 (w : Int) L L.length i w w out (w * i / 8) (w * i % 8) (L[i]).toNat (Nat.le_refl _) hw (Nat.mod_lt _ (by decide)) hol hf (by omega) hb (by rw [← hqr]; exact hlt) (by rw [← hqr]; omega)
      rw [← hqr] at hN' hgo
      have htake : L.take (i + 1) = L.take i ++ [L[i]] := by rw [List.take_succ_eq_append_getElem (by omega)]
      have hrec := ih (i + 1) out' (by omega) (by
          obtain ⟨x, hxd, hxx⟩ := hbad
          have hxd' : x ∈ L[i] :: L.drop (i + 1) := by rw [← dropc L i (by omega)]; exact hxd
          rcases List.mem_cons.1 hxd' with e | h
          · exact absurd (by rw [e]; exact hf) hxx
          · exact ⟨x, h, hxx⟩) (by
          intro x hx
          rw [htake] at hx
          rcases List.mem_append.1 hx with hx | hx
          · exact hgood x hx
          · simp at hx; rw [hx]; exact hf) (by rw [hl']; exact hol) hb' (by
        rw [hN', htake, numN_append, List.length_take, Nat.min_eq_left (by omega), hN]
        simp only [numN, Nat.mul_zero, Nat.add_zero]; rw [Nat.mul_comm (L[i]).toNat]) (by rw [hl']; exact hlen)
      refine Ev.step (fun k => ?_) (hgo _ (by
        rw [w64 (by omega) (by omega)]
        have e1 : w * (i + 1) = w * i + w := by rw [Nat.mul_add, Nat.mul_one]
        rw [e1] at hrec
        simp only [Int.natCast_add, Int.natCast_one] at hrec ⊢
        exact hrec))
      simp only [bits_Pack.l0]
      rw [if_pos (by omega), if_pos (by omega), if_pos (by omega), rd_get (by omega), fits_f hx.1 hx.2 (by omega) (by omega), Option.bind_some, Int.toNat_natCast, decide_eq_true hf, if_pos rfl, Int.toNat_of_nonneg hx.1]
    · refine Ev.step (f := fun _ => some ([], 5)) (fun k => ?_) (Ev.now _)
      simp only [bits_Pack.l0]
      rw [if_pos (by omega), if_pos (by omega), if_pos (by omega), rd_get (by omega), fits_f hx.1 hx.2 (by omega) (by omega), Option.bind_some, Int.toNat_natCast, decide_eq_false hf, if_neg (by decide)]
def fitAll (L : List Int) (w : Nat) : Prop := ∀ x ∈ L, x.toNat < 2 ^ w
instance (L : List Int) (w : Nat) : Decidable (fitAll L w) := inferInstanceAs (Decidable (∀ x ∈ L, x.toNat < 2 ^ w))
def packed (L : List Int) (w : Int) : List Int × Int :=
  if okSize L.length w then (if fitAll L w.toNat then (digs (sizeN L.length w.toNat) (numN w.toNat L), 0) else ([], 5)) else ([], 1)
theorem bytes_zeros (n : Nat) : Bytes (List.replicate n 0) := by intro x hx; rw [(List.mem_replicate.1 hx).2]; decide
theorem pack_f (L : List Int) (w : Int) (hL : ∀ x ∈ L, 0 ≤ x ∧ x < 18446744073709551616) : Ev (fun k => bits_Pack.f k L w) (packed L w) := by
  unfold bits_Pack.f packed
  by_cases ho : okSize L.length w
  · obtain ⟨h1, h2, h3, h4⟩ := id ho
    obtain ⟨m, rfl⟩ := Int.eq_ofNat_of_zero_le h3
    rw [if_pos ho]
    have hs : sizeN L.length m < 10000000 := by
      unfold sizeN
      have : L.length * m ≤ 65536 * 64 := Nat.mul_le_mul (by omega) (by omega)
      omega
    have hle : m * L.length ≤ 8 * sizeN L.length m := by unfold sizeN; rw [Nat.mul_comm m]; omega
    refine Ev.congr (f := fun k => bits_Pack.l0 k m (List.replicate (sizeN L.length m) 0) ((m * 0 : Nat) : Int) L L.length ((0 : Nat) : Int)) (fun k => ?_) ?_
    · rw [size_f, if_pos ho, Option.bind_some, Int.toNat_natCast, if_neg (by omega)]
      simp only [Int.toNat_natCast]
      rw [if_pos (by omega), if_pos (by omega)]; rfl
    · by_cases hf : fitAll L m
      · rw [Int.toNat_natCast, if_pos hf]
        have := pack_l0 m (by omega) L (by omega) (fun x hx => ⟨(hL x hx).1, (hL x hx).2, hf x hx⟩) L.length 0 (List.replicate (sizeN L.length m) 0) (by omega) (by rw [List.length_replicate]; exact hs) (bytes_zeros _) (by simp [leN_zeros, numN]) (by simpa using hle)
        rw [List.length_replicate] at this; exact this
      · rw [Int.toNat_natCast, if_neg hf]
        unfold fitAll at hf
        refine pack_l0_bad m (by omega) L (by omega) hL L.length 0 _ (by omega) ?_ (by simp) (by rw [List.length_replicate]; exact hs) (bytes_zeros _) (by simp [leN_zeros, numN]) (by simpa using hle)
        have hf := Classical.not_forall.1 hf
        obtain ⟨x, hx⟩ := hf
        have hx := Classical.not_imp.1 hx
        exact ⟨x, by simpa using hx.1, hx.2⟩
  · rw [if_neg ho]
    refine Ev.congr (f := fun _ => some ([], 1)) (fun k => ?_) (Ev.now _)
    rw [size_f, if_neg ho, Option.bind_some, if_pos (by decide)]

/-! math/bits.Len64, by the library's contract -/
theorem bitlen_le {v : Nat} (h : v < 18446744073709551616) : Lib.bitLen v ≤ 64 := Lib.bitLen_le v 64 (by decide) (by simpa using h)

/-! bits of numbers below powers -/
theorem pk_no (a b : Nat) : ¬ a + (1 + b) ≤ a := by omega
theorem bitlen_lt {v k : Nat} (h : Lib.bitLen v ≤ k) (hv : v < 18446744073709551616) : v < 2 ^ k := by
  refine Classical.byContradiction fun hc => ?_
  have hk : k ≤ 64 ∨ 64 < k := by omega
  rcases hk with hk | hk
  · have := Lib.bitLen_shift k v (Nat.le_of_not_lt hc) (Nat.lt_of_lt_of_eq hv (by decide))
    have hpos : 1 ≤ v / 2 ^ k := by rw [Nat.le_div_iff_mul_le (Nat.two_pow_pos k), Nat.one_mul]; exact Nat.le_of_not_lt hc
    have h2 : v / 2 ^ k < 2 ^ 64 := Nat.lt_of_le_of_lt (Nat.div_le_self _ _) (Nat.lt_of_lt_of_eq hv (by decide))
    have h3 := Lib.bitLen_half (v / 2 ^ k) (Nat.ne_of_gt hpos) h2
    rw [this, h3] at h
    exact absurd h (pk_no _ _)
  · exact hc (Nat.lt_of_lt_of_le (Nat.lt_of_lt_of_eq hv (by decide : (18446744073709551616 : Nat) = 2 ^ 64)) (Nat.pow_le_pow_right (by decide) (Nat.le_of_lt hk)))
/-! texts: their order, the list of all that are there -/
def tb (s : ByteArray) : List UInt8 := s.data.toList
theorem tb_inj {a b : ByteArray} (h : tb a = tb b) : a = b := by
  cases a; cases b
  unfold tb at h
  simp only [ByteArray.mk.injEq]
  exact Array.toList_inj.1 h
theorem tb_toList (s : ByteArray) : s.toList = tb s := ByteArray.toList_eq s
def LT (a b : ByteArray) : Prop := tb a < tb b
theorem less_eq (a b : ByteArray) : Op.bytesLess a.toList b.toList = decide (tb a < tb b) := by rw [tb_toList, tb_toList, bytesLess_eq]
theorem bl_irrefl (a : List UInt8) : ¬ a < a := List.lt_irrefl a
theorem bl_trans {a b c : List UInt8} (h1 : a < b) (h2 : b < c) : a < c := List.lt_trans h1 h2
theorem bl_tri (a b : List UInt8) : a < b ∨ a = b ∨ b < a := by
  by_cases h : a < b
  · exact .inl h
  · by_cases h2 : b < a
    · exact .inr (.inr h2)
    · exact .inr (.inl (List.le_antisymm (List.not_lt.1 h2) (List.not_lt.1 h)))
theorem bl_le {a b : List UInt8} : a ≤ b ↔ ¬ b < a := Iff.rfl
theorem LT.ne {a b : ByteArray} (h : LT a b) : a ≠ b := fun e => by subst e; exact bl_irrefl _ h
theorem LT.asymm {a b : ByteArray} (h : LT a b) : ¬ LT b a := fun h2 => bl_irrefl _ (bl_trans h h2)
theorem LT.trans {a b c : ByteArray} (h : LT a b) (h2 : LT b c) : LT a c := bl_trans h h2
theorem tarr_get (zs : List (List UInt8)) (j : Nat) (h : j < zs.length) : zs.toArray[j]! = zs[j] := by simp [getElem!_pos, h]
theorem tfirst_kept (zs : List (List UInt8)) (x : List UInt8) : ∀ j, j < zs.length → zs.toArray[j]! = x → ∃ i, i < zs.length ∧ zs.toArray[i]! = x ∧ Go.Lib.keeps zs.toArray i = true := by
  intro j
  induction j with
  | zero => intro h e; exact ⟨0, h, e, Go.Lib.keeps_lt_one _ 0 (by decide)⟩
  | succ j ih =>
    intro h e
    by_cases hp : zs.toArray[j]! = x
    · exact ih (by omega) hp
    · refine ⟨j + 1, h, e, Go.Lib.keeps_pos ?_⟩
      rw [e, Nat.add_sub_cancel]; exact fun h => hp h.symm
theorem tcompact_mem (zs : List (List UInt8)) (x : List UInt8) : x ∈ Go.Lib.compact zs ↔ x ∈ zs := by
  unfold Go.Lib.compact Go.Lib.compactUpTo
  simp only [List.mem_map, List.mem_filter, List.mem_range]
  constructor
  · rintro ⟨j, ⟨hj, _⟩, rfl⟩
    rw [tarr_get zs j hj]; exact List.getElem_mem hj
  · intro hx
    obtain ⟨j, hj, hx⟩ := List.getElem_of_mem hx
    obtain ⟨i, h1, h2, h3⟩ := tfirst_kept zs x j hj (by rw [tarr_get zs j hj]; exact hx)
    exact ⟨i, ⟨h1, h3⟩, h2⟩
theorem tcompact_lt (zs : List (List UInt8)) (hs : zs.Pairwise (fun x y => x ≤ y)) : (Go.Lib.compact zs).Pairwise (fun x y => x < y) := by
  unfold Go.Lib.compact Go.Lib.compactUpTo
  rw [List.pairwise_map]
  have hr : (List.range zs.length).Pairwise (fun x y => x < y) := List.pairwise_lt_range
  refine (hr.filter _).imp_of_mem ?_
  intro a b ha hb hab
  simp only [List.mem_filter, List.mem_range] at ha hb
  have hle := List.pairwise_iff_getElem.1 hs
  have hk : ¬ zs.toArray[b]! = zs.toArray[b - 1]! := by
    intro e
    have := Go.Lib.keeps_neg (by omega) e
    rw [hb.2] at this; cases this
  rw [tarr_get zs b hb.1, tarr_get zs (b - 1) (by omega)] at hk
  rw [tarr_get zs b hb.1, tarr_get zs a ha.1]
  have h1 := hle (b - 1) b (by omega) hb.1 (by omega)
  have h3 : zs[b - 1]'(by omega) < zs[b] := by
    rcases bl_tri (zs[b - 1]'(by omega)) zs[b] with h | h | h
    · exact h
    · exact absurd h.symm hk
    · exact absurd h (bl_le.1 h1)
  by_cases e : a = b - 1
  · subst e; exact h3
  · have h2 := hle a (b - 1) ha.1 (by omega) (by omega)
    rcases bl_tri zs[a] (zs[b - 1]'(by omega)) with h | h | h
    · exact bl_trans h h3
    · rw [h]; exact h3
    · exact absurd h (bl_le.1 h2)
theorem tsorted_le (l : List (List UInt8)) : (l.mergeSort fun x y => decide (x ≤ y)).Pairwise (fun x y => x ≤ y) := by
  have := List.pairwise_mergeSort (le := fun (x y : List UInt8) => decide (x ≤ y)) (fun a b c h1 h2 => by
    simp only [decide_eq_true_eq] at *
    intro h
    rcases bl_tri a b with h3 | h3 | h3
    · exact h2 (bl_trans h h3)
    · subst h3; exact h2 h
    · exact h1 h3) (fun a b => by
    simp only [Bool.or_eq_true, decide_eq_true_eq]
    rcases bl_tri a b with h | h | h
    · exact .inl (fun h2 => bl_irrefl _ (bl_trans h h2))
    · exact .inl (by subst h; exact bl_irrefl a)
    · exact .inr (fun h2 => bl_irrefl _ (bl_trans h h2))) l
  exact this.imp (fun h => by simpa using h)
def tl (l : List ByteArray) : List ByteArray := texts_List.bs (Go.Lib.compact (texts_List.srt l))
def Asc (l : List ByteArray) : Prop := l.Pairwise LT
theorem tl_asc (l : List ByteArray) : Asc (tl l) := by
  unfold Asc tl texts_List.bs
  rw [List.pairwise_map]
  exact (tcompact_lt _ (tsorted_le (texts_List.ls l))).imp (fun h => h)
theorem tl_mem (l : List ByteArray) (x : ByteArray) : x ∈ tl l ↔ x ∈ l := by
  unfold tl texts_List.bs
  rw [List.mem_map]
  have hm : ∀ y, y ∈ Go.Lib.compact (texts_List.srt l) ↔ y ∈ texts_List.ls l := fun y => by
    rw [tcompact_mem]; exact (List.mergeSort_perm _ _).mem_iff
  constructor
  · rintro ⟨y, hy, rfl⟩
    obtain ⟨z, hz, rfl⟩ := List.mem_map.1 ((hm y).1 hy)
    have : z = (⟨z.data.toList.toArray⟩ : ByteArray) := tb_inj rfl
    rwa [← this]
  · intro hx
    exact ⟨tb x, (hm _).2 (List.mem_map.2 ⟨x, hx, rfl⟩), tb_inj rfl⟩
theorem tl_len (l : List ByteArray) : (tl l).length ≤ l.length := by
  have h1 := Go.Lib.compact_length_le (texts_List.srt l)
  have h2 : (texts_List.srt l).length = l.length := by unfold texts_List.srt texts_List.ls; rw [List.length_mergeSort, List.length_map]
  unfold tl texts_List.bs
  rw [List.length_map]; omega
theorem asc_ext : ∀ (a b : List ByteArray), Asc a → Asc b → (∀ x, x ∈ a ↔ x ∈ b) → a = b := by
  intro a
  induction a with
  | nil =>
    intro b _ _ h
    cases b with
    | nil => rfl
    | cons y b => exact absurd ((h y).2 (by simp)) (by simp)
  | cons x a ih =>
    intro b ha hb h
    cases b with
    | nil => exact absurd ((h x).1 (by simp)) (by simp)
    | cons y b =>
      obtain ⟨a1, a2⟩ := List.pairwise_cons.1 ha
      obtain ⟨b1, b2⟩ := List.pairwise_cons.1 hb
      have hxy : x = y := by
        rcases List.mem_cons.1 ((h x).1 (by simp)) with e | e
        · exact e
        · rcases List.mem_cons.1 ((h y).2 (by simp)) with e2 | e2
          · exact e2.symm
          · exact absurd (b1 x e) (LT.asymm (a1 y e2))
      subst hxy
      rw [ih b a2 b2 (fun z => ?_)]
      constructor
      · intro hz
        rcases List.mem_cons.1 ((h z).1 (by simp [hz])) with e | e
        · exact absurd e.symm (LT.ne (a1 z hz))
        · exact e
      · intro hz
        rcases List.mem_cons.1 ((h z).2 (by simp [hz])) with e | e
        · exact absurd e.symm (LT.ne (b1 z hz))
        · exact e
theorem tl_eq {l L : List ByteArray} (h1 : Asc L) (h2 : ∀ x, x ∈ L ↔ x ∈ l) : tl l = L := asc_ext _ _ (tl_asc l) h1 (fun x => by rw [tl_mem, h2])
theorem tl_f {l : List ByteArray} (h : l.length ≤ 1000000) : texts_List.f l = some (tl l) := by unfold texts_List.f; rw [if_pos (by omega)]; rfl
theorem rdo_get {xs : List ByteArray} {i : Nat} (h : i < xs.length) : rdOf ByteArray.empty xs (i : Int) = xs[i] := by simp [rdOf, h]
theorem nx {i : Nat} (h : i < 9223372036854775807) : wrap64 ((i : Int) + 1) = ((i + 1 : Nat) : Int) := by rw [w64 (by omega) (by omega)]; omega
theorem asc_at {L : List ByteArray} (hL : Asc L) {i j : Nat} (hj : j < L.length) (h : i < j) : LT (L[i]'(by omega)) L[j] := List.pairwise_iff_getElem.1 hL i j (by omega) hj h
theorem asc_inj {L : List ByteArray} (hL : Asc L) {i j : Nat} (hi : i < L.length) (hj : j < L.length) (h : L[i] = L[j]) : i = j := by
  rcases Nat.lt_trichotomy i j with c | c | c
  · exact absurd h (LT.ne (asc_at hL hj c))
  · exact c
  · exact absurd h.symm (LT.ne (asc_at hL hi c))
/-! estreatref13: Place, Same, Great -/
def pl (s : ByteArray) : List ByteArray → Nat × Bool
  | [] => (0, false)
  | y :: ys => if tb y < tb s then ((pl s ys).1 + 1, (pl s ys).2) else (0, tb y == tb s)
theorem pl_at (s : ByteArray) : ∀ X, Asc X → s ∈ X → X[(pl s X).1]? = some s := by
  intro X
  induction X with
  | nil => intro _ h; exact absurd h (by simp)
  | cons y ys ih =>
    intro hA h
    obtain ⟨a1, a2⟩ := List.pairwise_cons.1 hA
    rw [pl]
    by_cases e : y = s
    · subst e
      rw [if_neg (bl_irrefl _)]; rfl
    · have hm : s ∈ ys := by
        rcases List.mem_cons.1 h with h | h
        · exact absurd h.symm e
        · exact h
      have hlt : tb y < tb s := a1 s hm
      rw [if_pos hlt]
      show (y :: ys)[(pl s ys).1 + 1]? = some s
      rw [List.getElem?_cons_succ]
      exact ih a2 hm
theorem pl_get {s : ByteArray} {X : List ByteArray} (hA : Asc X) (h : s ∈ X) : ∃ hl : (pl s X).1 < X.length, X[(pl s X).1] = s := List.getElem?_eq_some_iff.1 (pl_at s X hA h)
theorem pl_iff (s : ByteArray) : ∀ X, Asc X → ∀ j (h : j < X.length), tb X[j] < tb s ↔ j < (pl s X).1 := by
  intro X
  induction X with
  | nil => intro _ j h; exact absurd h (Nat.not_lt_zero _)
  | cons y ys ih =>
    intro hA j h
    obtain ⟨a1, a2⟩ := List.pairwise_cons.1 hA
    rw [pl]
    by_cases c : tb y < tb s
    · rw [if_pos c]
      cases j with
      | zero => exact ⟨fun _ => Nat.succ_pos _, fun _ => c⟩
      | succ j =>
        have := ih a2 j (by simpa using h)
        simp only [List.getElem_cons_succ]
        rw [this]
        show j < _ ↔ j + 1 < (pl s ys).1 + 1
        omega
    · rw [if_neg c]
      refine ⟨fun h2 => absurd h2 ?_, fun h2 => absurd h2 (Nat.not_lt_zero _)⟩
      cases j with
      | zero => exact c
      | succ j =>
        simp only [List.getElem_cons_succ]
        intro h3
        exact c (bl_trans (a1 _ (List.getElem_mem (by simpa using h))) h3)
/-! estreatref13.Same -/
theorem tsame_l0 (a b : List ByteArray) (he : a.length = b.length) (ha : a.length ≤ 1000000) : ∀ (d j : Nat), a.length = j + d → Ev (fun k => estreatref13_Same.l0 k a b j) (decide (a.drop j = b.drop j)) := by
  intro d
  induction d with
  | zero =>
    intro j hd
    rw [List.drop_of_length_le (by omega), List.drop_of_length_le (by omega)]
    exact Ev.step (f := fun _ => some true) (fun k => by simp only [estreatref13_Same.l0]; rw [if_neg (by omega)]) (Ev.now _)
  | succ d ih =>
    intro j hd
    have hj : j < a.length := by omega
    have hj2 : j < b.length := by omega
    rw [dropc a j hj, dropc b j hj2]
    by_cases c : a[j] = b[j]
    · have hn := ih (j + 1) (by omega)
      rw [show decide (a[j] :: a.drop (j + 1) = b[j] :: b.drop (j + 1)) = decide (a.drop (j + 1) = b.drop (j + 1)) from by simp only [List.cons.injEq, c, true_and]]
      refine Ev.step (fun k => ?_) hn
      simp only [estreatref13_Same.l0]
      rw [if_pos (Int.ofNat_lt.2 hj), if_pos (Int.natCast_nonneg _), if_pos (Int.ofNat_lt.2 hj2), rdo_get hj, rdo_get hj2, if_pos (by rw [c]), nx (by omega)]
    · rw [show decide (a[j] :: a.drop (j + 1) = b[j] :: b.drop (j + 1)) = false from by simp only [List.cons.injEq, c, false_and, decide_false]]
      refine Ev.step (f := fun _ => some false) (fun k => ?_) (Ev.now _)
      simp only [estreatref13_Same.l0]
      rw [if_pos (Int.ofNat_lt.2 hj), if_pos (Int.natCast_nonneg _), if_pos (Int.ofNat_lt.2 hj2), rdo_get hj, rdo_get hj2, if_neg (fun e => c (tb_inj (by rw [← tb_toList, ← tb_toList]; exact e)))]
theorem tsame_f (a b : List ByteArray) (ha : a.length ≤ 1000000) : Ev (fun k => estreatref13_Same.f k a b) (decide (a = b)) := by
  unfold estreatref13_Same.f
  by_cases he : a.length = b.length
  · have e : (a.length : Int) = (b.length : Int) := by omega
    simp only [if_pos e]
    have := tsame_l0 a b he ha a.length 0 (by omega)
    simpa using this
  · have e : ¬ (a.length : Int) = (b.length : Int) := by omega
    simp only [if_neg e]
    rw [decide_eq_false (fun h => he (by rw [h]))]
    exact Ev.now _

/-! estreatref13.Great -/
theorem great_l0 (l : List ByteArray) (m n : Nat) (hl : l.length ≤ maxLen) (hm : m ≤ 1000) : ∀ (d j : Nat), m = j + d → j ≤ l.length → (∀ i (h : i < l.length), i < j → l[i].size ≤ n) →
    ∃ g, Ev (fun k => estreatref13_Great.l0 k l m n j) g ∧ (g = false → l.length ≤ m ∧ ∀ x ∈ l, x.size ≤ n) := by
  have hx : maxLen ≤ 9223372036854775807 := by decide
  have fin : ∀ (j : Nat), (∀ i (h : i < l.length), i < j → l[i].size ≤ n) → (j = m ∨ j = l.length) → ∃ g, Ev (fun _ => some g) g ∧ g = decide ((l.length : Int) > (m : Int)) ∧ (g = false → l.length ≤ m ∧ ∀ x ∈ l, x.size ≤ n) := by
    intro j hsz hj
    refine ⟨decide ((l.length : Int) > (m : Int)), Ev.now _, rfl, fun hg => ?_⟩
    have : ¬ (l.length : Int) > (m : Int) := of_decide_eq_false hg
    refine ⟨by omega, fun x hx => ?_⟩
    obtain ⟨i, hi, rfl⟩ := List.getElem_of_mem hx
    exact hsz i hi (by omega)
  intro d
  induction d with
  | zero =>
    intro j hd hj hsz
    obtain ⟨g, h1, h2, h3⟩ := fin j hsz (.inl (by omega))
    refine ⟨g, ?_, h3⟩
    refine Ev.step (f := fun k => estreatref13_Great.j1 k l m n j false) (fun k => ?_) (Ev.step (f := fun _ => some g) (fun k => ?_) h1)
    · simp only [estreatref13_Great.l0]
      split
      · rw [decide_eq_false (by omega)]
      · rfl
    · simp only [estreatref13_Great.j1]
      rw [if_neg (by decide), h2]
  | succ d ih =>
    intro j hd hj hsz
    by_cases c : j < l.length
    · by_cases c2 : l[j].size ≤ n
      · obtain ⟨g, h1, h2⟩ := ih (j + 1) (by omega) (by omega) (fun i h hi => by
          by_cases e : i = j
          · subst e; exact c2
          · exact hsz i h (by omega))
        refine ⟨g, Ev.step (f := fun k => estreatref13_Great.j1 k l m n j true) (fun k => ?_) (Ev.step (fun k => ?_) h1), h2⟩
        · simp only [estreatref13_Great.l0]
          rw [if_pos (Int.ofNat_lt.2 c), decide_eq_true (by omega)]
        · simp only [estreatref13_Great.j1]
          rw [if_pos trivial, if_pos (Int.natCast_nonneg _), if_pos (Int.ofNat_lt.2 c), rdo_get c, if_neg (by omega), nx (by omega)]
      · refine ⟨true, Ev.step (f := fun k => estreatref13_Great.j1 k l m n j true) (fun k => ?_) (Ev.step (f := fun _ => some true) (fun k => ?_) (Ev.now _)), fun h => by cases h⟩
        · simp only [estreatref13_Great.l0]
          rw [if_pos (Int.ofNat_lt.2 c), decide_eq_true (by omega)]
        · simp only [estreatref13_Great.j1]
          rw [if_pos trivial, if_pos (Int.natCast_nonneg _), if_pos (Int.ofNat_lt.2 c), rdo_get c, if_pos (by omega)]
    · obtain ⟨g, h1, h2, h3⟩ := fin j hsz (.inr (by omega))
      refine ⟨g, ?_, h3⟩
      refine Ev.step (f := fun k => estreatref13_Great.j1 k l m n j false) (fun k => ?_) (Ev.step (f := fun _ => some g) (fun k => ?_) h1)
      · simp only [estreatref13_Great.l0]
        rw [if_neg (by omega)]
      · simp only [estreatref13_Great.j1]
        rw [if_neg (by decide), h2]
theorem great_f (l : List ByteArray) (m n : Nat) (hl : l.length ≤ maxLen) (hm : m ≤ 1000) : ∃ g, Ev (fun k => estreatref13_Great.f k l m n) g ∧ (g = false → l.length ≤ m ∧ ∀ x ∈ l, x.size ≤ n) := by
  unfold estreatref13_Great.f
  exact great_l0 l m n hl hm m 0 (by omega) (Nat.zero_le _) (fun i _ h => absurd h (Nat.not_lt_zero _))

/-! texts.Put -/
def wd (n : Nat) : Nat := Lib.bitLen (n - 1)
theorem wd_64 (n : Nat) (hn : n ≤ 65536) : wd n ≤ 64 := bitlen_le (by omega)
theorem putvar_ev {v : Int} {b : List Int} (h0 : 0 ≤ v) (h1 : v < 18446744073709551616) (hb : b.length < 140737488000000) : Ev (fun k => num_PutVar.f k b v) (b ++ leb v.toNat) := ⟨10, fun k hk => putvar_f h0 h1 hk hb⟩
def blob (s : ByteArray) : List Int := leb s.size ++ num_PutBlobS.bs s
def blobs : List ByteArray → List Int
  | [] => []
  | s :: r => blob s ++ blobs r
def tplaces (L l : List ByteArray) : List Int := l.map (fun s => (((pl s L).1 : Nat) : Int))
def textOf (l : List ByteArray) : List Int := leb (tl l).length ++ blobs (tl l) ++ [(wd (tl l).length : Int)] ++ (packed (tplaces (tl l) l) (wd (tl l).length)).1
theorem blob_len {s : ByteArray} (h : s.size ≤ 65536) : (blob s).length ≤ 70000 := by
  have h10 := leb_length10 (v := s.size) (by omega)
  unfold blob
  rw [List.length_append, num_PutBlobS.bs_length]; omega
theorem blobs_len : ∀ (L : List ByteArray), (∀ s ∈ L, s.size ≤ 65536) → (blobs L).length ≤ 70000 * L.length
  | [], _ => Nat.zero_le _
  | s :: r, h => by
    have h1 := blob_len (h s (by simp))
    have h2 := blobs_len r (fun x hx => h x (by simp [hx]))
    rw [blobs, List.length_append, List.length_cons]; omega
theorem putblob_ev {b : List Int} {s : ByteArray} (hb : b.length ≤ 5000000000) (hs : s.size ≤ 65536) : Ev (fun k => num_PutBlobS.f k b s) (b ++ blob s) := by
  unfold num_PutBlobS.f num_PutBlob.f blob
  have hl := num_PutBlobS.bs_length s
  have h10 := leb_length10 (v := s.size) (by omega)
  have e : IntKind.u64.wrap ((num_PutBlobS.bs s).length : Int) = (s.size : Int) := by rw [hl, u64w_id (by omega) (by omega)]
  rw [e]
  have hp := putvar_ev (b := b) (v := (s.size : Int)) (by omega) (by omega) (by omega)
  rw [Int.toNat_natCast] at hp
  refine Ev.bind hp ?_
  have c : (b ++ leb s.size).length + (num_PutBlobS.bs s).length < 140737488355328 := by rw [List.length_append, hl]; omega
  simp only [if_pos c, List.append_assoc]
  exact Ev.now _
theorem texts_width_f (n : Nat) (hn : n ≤ 65536) : texts_width.f (n : Int) = some (wd n : Int) := by
  have e : IntKind.u64.wrap (mx (wrap64 ((n : Int) - 1)) 0) = ((n - 1 : Nat) : Int) := by
    rw [w64 (by omega) (by omega)]
    unfold mx
    split <;> (rw [u64w_id (by omega) (by omega)]; omega)
  unfold texts_width.f bits_Len.f wd
  rw [e, if_pos (Int.natCast_nonneg _), if_pos (by omega), Option.bind_some, Int.toNat_natCast]
theorem tplaces_len (L l : List ByteArray) : (tplaces L l).length = l.length := by simp [tplaces]
theorem tplaces_fit {L l : List ByteArray} (hL : Asc L) (hm : ∀ x ∈ l, x ∈ L) (hn : L.length ≤ 65536) : (∀ x ∈ tplaces L l, 0 ≤ x ∧ x < 18446744073709551616) ∧ fitAll (tplaces L l) (wd L.length) := by
  constructor
  · intro x hx
    obtain ⟨y, hy, rfl⟩ := List.mem_map.1 hx
    obtain ⟨h1, _⟩ := pl_get hL (hm y hy)
    omega
  · intro x hx
    obtain ⟨y, hy, rfl⟩ := List.mem_map.1 hx
    obtain ⟨h1, _⟩ := pl_get hL (hm y hy)
    have h2 := bitlen_lt (Nat.le_refl (Lib.bitLen (L.length - 1))) (by omega)
    rw [Int.toNat_natCast]
    exact Nat.lt_of_le_of_lt (by omega) h2
theorem tplaces_ok {L l : List ByteArray} (hL : Asc L) (hm : ∀ x ∈ l, x ∈ L) (hn : L.length ≤ 65536) (hl : l.length ≤ 65536) : (packed (tplaces L l) (wd L.length)).2 = 0 ∧ (packed (tplaces L l) (wd L.length)).1.length ≤ 8 * l.length + 1 := by
  have oa : okSize ((tplaces L l).length : Int) ((wd L.length : Nat) : Int) := ⟨by omega, by rw [tplaces_len]; omega, by omega, by have := wd_64 L.length hn; omega⟩
  unfold packed
  rw [if_pos oa, Int.toNat_natCast, if_pos (tplaces_fit hL hm hn).2]
  refine ⟨rfl, ?_⟩
  show (digs _ _).length ≤ _
  rw [digs_length, tplaces_len]
  have : l.length * wd L.length ≤ l.length * 64 := Nat.mul_le_mul_left _ (wd_64 _ hn)
  unfold sizeN; omega
theorem nan_f (s : ByteArray) : cmp_isNaN_string.f s = some false := by unfold cmp_isNaN_string.f; simp
theorem cless_f (a b : ByteArray) : cmp_Less_string.f a b = some (decide (tb a < tb b)) := by
  unfold cmp_Less_string.f
  rw [nan_f, Option.bind_some, if_neg (by decide), less_eq]
theorem bs_l0 (X : List ByteArray) (s : ByteArray) (hA : Asc X) (hm : s ∈ X) (hX : X.length ≤ 1000000) :
    ∀ (d lo hi : Nat), hi - lo ≤ d → lo ≤ (pl s X).1 → (pl s X).1 ≤ hi → hi ≤ X.length → Ev (fun k => slices_BinarySearch_string_string.l0 k X s X.length lo hi) (((pl s X).1 : Int), true) := by
  obtain ⟨hi1, he⟩ := pl_get hA hm
  intro d
  induction d with
  | zero =>
    intro lo hi hd h1 h2 h3
    have e : lo = (pl s X).1 := by omega
    refine Ev.step (f := fun _ => some (((pl s X).1 : Int), true)) (fun k => ?_) (Ev.now _)
    simp only [slices_BinarySearch_string_string.l0]
    rw [if_neg (by omega), e, if_pos (Int.ofNat_lt.2 hi1), if_pos (Int.natCast_nonneg _), if_pos (Int.ofNat_lt.2 hi1), rdo_get hi1, he, if_pos rfl]
  | succ d ih =>
    intro lo hi hd h1 h2 h3
    by_cases c : lo < hi
    · have em : wrap64 ((IntKind.u64.wrap (wrap64 ((lo : Int) + (hi : Int)))) / 2) = (((lo + hi) / 2 : Nat) : Int) := by
        rw [w64 (n := (lo : Int) + hi) (by omega) (by omega), u64w_id (by omega) (by omega), w64 (by omega) (by omega)]; omega
      have hmid : (lo + hi) / 2 < X.length := by omega
      have hiff := pl_iff s X hA ((lo + hi) / 2) hmid
      by_cases c2 : tb X[(lo + hi) / 2] < tb s
      · have h4 := hiff.1 c2
        refine Ev.step (fun k => ?_) (ih ((lo + hi) / 2 + 1) hi (by omega) (by omega) h2 h3)
        simp only [slices_BinarySearch_string_string.l0]
        rw [if_pos (Int.ofNat_lt.2 c), em, if_pos (Int.natCast_nonneg _), if_pos (Int.ofNat_lt.2 hmid), rdo_get hmid, cless_f, decide_eq_true c2, Option.bind_some, if_pos rfl, nx (by omega)]
      · have h4 : ¬ (lo + hi) / 2 < (pl s X).1 := fun h => c2 (hiff.2 h)
        refine Ev.step (fun k => ?_) (ih lo ((lo + hi) / 2) (by omega) h1 (by omega) (by omega))
        simp only [slices_BinarySearch_string_string.l0]
        rw [if_pos (Int.ofNat_lt.2 c), em, if_pos (Int.natCast_nonneg _), if_pos (Int.ofNat_lt.2 hmid), rdo_get hmid, cless_f, decide_eq_false c2, Option.bind_some, if_neg (by decide)]
    · exact ih lo hi (by omega) h1 h2 h3
theorem bs_f (X : List ByteArray) (s : ByteArray) (hA : Asc X) (hm : s ∈ X) (hX : X.length ≤ 1000000) : Ev (fun k => slices_BinarySearch_string_string.f k X s) (((pl s X).1 : Int), true) := by
  unfold slices_BinarySearch_string_string.f
  obtain ⟨h, _⟩ := pl_get hA hm
  exact bs_l0 X s hA hm hX X.length 0 X.length (by omega) (Nat.zero_le _) (by omega) (Nat.le_refl _)
theorem u64w_nat {j n : Nat} (h : j < n) (hn : n ≤ 65536) : IntKind.u64.wrap (j : Int) = (j : Int) := u64w_id (by omega) (by omega)
theorem len_ok {n : Nat} (h : n ≤ 65536) : n < 17592186044416 := by omega
theorem tput_l1 (l L : List ByteArray) (b : List Int) (hL : Asc L) (hm : ∀ x ∈ l, x ∈ L) (hn : L.length ≤ 65536) (hl : l.length ≤ 65536) (hb : b.length ≤ 5000000000) :
    ∀ (d i : Nat), l.length = i + d → Ev (fun k => texts_Put.l1 k L b ((tplaces L l).take i) l l.length i) (b ++ [(wd L.length : Int)] ++ (packed (tplaces L l) (wd L.length)).1, 0) := by
  intro d
  induction d with
  | zero =>
    intro i hd
    obtain ⟨p1, p2⟩ := tplaces_ok hL hm hn hl
    have hw := wd_64 L.length hn
    rw [List.take_of_length_le (by rw [tplaces_len]; omega)]
    refine Ev.step (f := fun k => _) (fun k => by
      simp only [texts_Put.l1]
      rw [if_neg (by omega), texts_width_f _ hn, Option.bind_some]) ?_
    refine Ev.bind (pack_f (tplaces L l) _ (tplaces_fit hL hm hn).1) ?_
    have i1 : b.length < 140737488355328 := by omega
    have i2 : (b ++ [(wd L.length : Int)]).length + (packed (tplaces L l) ((wd L.length : Nat) : Int)).1.length < 140737488355328 := by rw [List.length_append, List.length_singleton]; omega
    have i3 : ((wd L.length : Nat) : Int) % 256 = (wd L.length : Int) := by omega
    simp only [i3, if_pos i1, Option.bind_some, if_pos i2, p1]
    exact Ev.now _
  | succ d ih =>
    intro i hd
    have hi : i < l.length := by omega
    have hx := hm _ (List.getElem_mem hi)
    obtain ⟨hp, _⟩ := pl_get hL hx
    have e : (tplaces L l).take (i + 1) = (tplaces L l).take i ++ [(((pl l[i] L).1 : Nat) : Int)] := by
      rw [List.take_succ_eq_append_getElem (by rw [tplaces_len]; exact hi)]
      congr 2
      simp [tplaces]
    have hn2 := ih (i + 1) (by omega)
    rw [e] at hn2
    have c : ((tplaces L l).take i).length < 17592186044416 := len_ok (by rw [List.length_take, tplaces_len]; omega)
    refine Ev.step (f := fun k => (slices_BinarySearch_string_string.f k L l[i]).bind fun bt => if ((tplaces L l).take i).length < 17592186044416 then texts_Put.l1 k L b ((tplaces L l).take i ++ [IntKind.u64.wrap bt.1]) l l.length ((i + 1 : Nat) : Int) else none) (fun k => by
      simp only [texts_Put.l1]
      rw [if_pos (Int.ofNat_lt.2 hi), if_pos (Int.natCast_nonneg _), if_pos (Int.ofNat_lt.2 hi), rdo_get hi, nx (by omega)]) ?_
    refine Ev.bind (bs_f L l[i] hL hx (by omega)) ?_
    simp only [if_pos c, u64w_nat hp hn]
    exact hn2
theorem tput_l0 (l L : List ByteArray) (hn : L.length ≤ 65536) (hs : ∀ s ∈ L, s.size ≤ 65536) (res : List Int × Int) :
    ∀ (d j : Nat) (b : List Int), L.length = j + d → b.length ≤ 10 + 70000 * j → Ev (fun k => texts_Put.l1 k L (b ++ blobs (L.drop j)) [] l l.length 0) res → Ev (fun k => texts_Put.l0 k l L b L L.length j) res := by
  intro d
  induction d with
  | zero =>
    intro j b hd hb h
    rw [List.drop_of_length_le (by omega), blobs, List.append_nil] at h
    refine Ev.step (fun k => ?_) h
    simp only [texts_Put.l0]
    rw [if_neg (by omega)]
  | succ d ih =>
    intro j b hd hb h
    have hj : j < L.length := by omega
    have hsz := hs _ (List.getElem_mem hj)
    have hbl := blob_len hsz
    rw [dropc L j hj, blobs, ← List.append_assoc] at h
    have hn2 := ih (j + 1) (b ++ blob L[j]) (by omega) (by rw [List.length_append]; omega) h
    refine Ev.step (f := fun k => (num_PutBlobS.f k b L[j]).bind fun t => texts_Put.l0 k l L t L L.length ((j + 1 : Nat) : Int)) (fun k => by
      simp only [texts_Put.l0]
      rw [if_pos (Int.ofNat_lt.2 hj), if_pos (Int.natCast_nonneg _), if_pos (Int.ofNat_lt.2 hj), rdo_get hj, nx (by omega)]) ?_
    exact Ev.bind (putblob_ev (by omega) hsz) hn2
theorem long_f {l : List ByteArray} (hs : ∀ s ∈ l, s.size ≤ 65536) : slices_ContainsFunc_string_string.f l = some false := by
  unfold slices_ContainsFunc_string_string.f
  congr 1
  rw [List.any_eq_false]
  intro x hx
  have := hs x hx
  unfold slices_IndexFunc_string_string.p
  simp; omega
theorem textput_f (l : List ByteArray) (hl : l.length ≤ 65536) (hs : ∀ s ∈ l, s.size ≤ 65536) : Ev (fun k => texts_Put.f k l) (textOf l, 0) := by
  unfold texts_Put.f textOf
  have c : ¬ (l.length : Int) > 65536 := by omega
  simp only [if_neg c]
  rw [long_f hs]
  refine Ev.bind (Ev.now _) ?_
  have hL := tl_asc l
  have hn : (tl l).length ≤ 65536 := Nat.le_trans (tl_len l) hl
  have hLs : ∀ x ∈ tl l, x.size ≤ 65536 := fun x hx => hs x ((tl_mem l x).1 hx)
  have hm : ∀ x ∈ l, x ∈ tl l := fun x hx => (tl_mem l x).2 hx
  have e0 : IntKind.u64.wrap ((tl l).length : Int) = ((tl l).length : Int) := u64w_id (by omega) (by omega)
  have hp0 := putvar_ev (b := []) (v := ((tl l).length : Int)) (by omega) (by omega) (by decide)
  rw [Int.toNat_natCast, List.nil_append] at hp0
  refine Ev.step (f := fun k => (some (tl l)).bind fun t => (num_PutVar.f k ([] : List Int) (IntKind.u64.wrap (t.length : Int))).bind fun b => texts_Put.l0 k l t b t (t.length : Int) 0) (fun k => by
    simp only [texts_Put.j0]
    rw [if_neg (by decide), tl_f (by omega)]) ?_
  refine Ev.bind (Ev.now _) ?_
  rw [e0]
  refine Ev.bind hp0 ?_
  have h10 := leb_length10 (v := (tl l).length) (by omega)
  have hbl := blobs_len (tl l) hLs
  have hend := tput_l1 l (tl l) (leb (tl l).length ++ blobs (tl l)) hL hm hn hl (by rw [List.length_append]; omega) l.length 0 (by omega)
  rw [List.take_zero] at hend
  exact tput_l0 l (tl l) hn hLs _ (tl l).length 0 _ (by omega) (by omega) hend
theorem tl_bab : tl [(⟨#[98]⟩ : ByteArray), ⟨#[97]⟩, ⟨#[98]⟩] = [⟨#[97]⟩, ⟨#[98]⟩] := tl_eq (List.pairwise_cons.2 ⟨fun z hz => by
  rw [List.mem_singleton.1 hz]; show ([97] : List UInt8) < [98]; decide, List.pairwise_singleton _ _⟩) (fun x => by
  simp only [List.mem_cons, List.not_mem_nil, or_false]
  exact ⟨fun h => h.elim (fun h => .inr (.inl h)) .inl, fun h => h.elim .inr (fun h => h.elim .inl .inr)⟩)
theorem textawake_eq : textOf [(⟨#[98]⟩ : ByteArray), ⟨#[97]⟩, ⟨#[98]⟩] = [2, 1, 97, 1, 98, 1, 5] := by
  have h3 : wd 2 = 1 := by decide
  have h4 : packed (tplaces [(⟨#[97]⟩ : ByteArray), ⟨#[98]⟩] [⟨#[98]⟩, ⟨#[97]⟩, ⟨#[98]⟩]) ((1 : Nat) : Int) = ([5], 0) := by decide
  have h5 : blobs [(⟨#[97]⟩ : ByteArray), ⟨#[98]⟩] = [1, 97, 1, 98] := by
    show (leb 1 ++ [97]) ++ ((leb 1 ++ [98]) ++ []) = _
    rw [leb_small (by decide)]; decide
  unfold textOf
  rw [tl_bab]
  show leb 2 ++ blobs [(⟨#[97]⟩ : ByteArray), ⟨#[98]⟩] ++ [((wd 2 : Nat) : Int)] ++ (packed (tplaces [(⟨#[97]⟩ : ByteArray), ⟨#[98]⟩] [⟨#[98]⟩, ⟨#[97]⟩, ⟨#[98]⟩]) ((wd 2 : Nat) : Int)).1 = _
  rw [h3, h4, h5, leb_small (by decide)]; decide
theorem textawake : Ev (fun k => estreatlaw13_awake.f k) true := by
  unfold estreatlaw13_awake.f
  refine Ev.bind (textput_f [(⟨#[98]⟩ : ByteArray), ⟨#[97]⟩, ⟨#[98]⟩] (by decide) (fun x hx => by
    simp only [List.mem_cons, List.not_mem_nil, or_false] at hx
    rcases hx with rfl | rfl | rfl <;> decide)) ?_
  rw [textawake_eq]
  refine Ev.bind (a := true) ⟨10, fun k hk => by
    have := same_f [2, 1, 97, 1, 98, 1, 5] [2, 1, 97, 1, 98, 1, 5] (by decide) k (by simp; omega)
    simpa using this⟩ ?_
  simp only [if_true]
  exact Ev.now _

/-! numbers of w bits each out of one number -/
def nums_ (w : Nat) : Nat → Nat → List Int
  | 0, _ => []
  | n + 1, B => ((B % 2 ^ w : Nat) : Int) :: nums_ w n (B / 2 ^ w)
theorem nums_length (w : Nat) : ∀ n B, (nums_ w n B).length = n := by
  intro n; induction n with
  | zero => intro B; rfl
  | succ n ih => intro B; simp [nums_, ih]
theorem nums_snoc (w : Nat) : ∀ n B, nums_ w (n + 1) B = nums_ w n B ++ [((B / 2 ^ (w * n) % 2 ^ w : Nat) : Int)] := by
  intro n; induction n with
  | zero => intro B; simp [nums_]
  | succ n ih =>
    intro B
    rw [nums_, ih (B / 2 ^ w), nums_, List.cons_append, Nat.div_div_eq_div_mul, ← Nat.pow_add, Nat.mul_add w n 1, Nat.mul_one, Nat.add_comm w]
def unpacked (b : List Int) (n w : Int) : List Int × Int :=
  if okSize n w then (if b.length < sizeN n.toNat w.toNat then ([], 2) else if sizeN n.toNat w.toNat < b.length then ([], 3) else if leN b < 2 ^ (w.toNat * n.toNat) then (nums_ w.toNat n.toNat (leN b), 0) else ([], 4)) else ([], 1)
/-- bytes: the last one -/
theorem leN_snoc : ∀ (xs : List Int) (x : Int), leN (xs ++ [x]) = leN xs + 256 ^ xs.length * x.toNat := by
  intro xs; induction xs with
  | nil => intro x; simp [leN]
  | cons y xs ih =>
    intro x
    simp only [List.cons_append, leN, ih, List.length_cons, Nat.pow_succ, Nat.mul_add]
    have : 256 * (256 ^ xs.length * x.toNat) = 256 ^ xs.length * 256 * x.toNat := by rw [Nat.mul_comm (256 ^ xs.length) 256, Nat.mul_assoc]
    omega
theorem leN_last (b : List Int) (s r : Nat) (hs : b.length = s + 1) (hb : Bytes b) : leN b < 2 ^ (8 * s + r) ↔ (b[s]'(by omega)).toNat < 2 ^ r := by
  have e : b = b.take s ++ [b[s]'(by omega)] := by
    have h1 := List.take_succ_eq_append_getElem (l := b) (i := s) (by omega)
    rw [List.take_of_length_le (by omega)] at h1; exact h1
  have hl : (b.take s).length = s := by rw [List.length_take]; omega
  have hlt := leN_lt (b.take s) (fun x hx => hb x (List.mem_of_mem_take hx))
  rw [hl] at hlt
  have hN : leN b = leN (b.take s) + 256 ^ s * (b[s]'(by omega)).toNat := by
    conv => lhs; rw [e]
    rw [leN_snoc, hl]
  rw [hN, pow8]
  constructor
  · intro h
    refine Nat.lt_of_mul_lt_mul_left (a := 256 ^ s) (Nat.lt_of_le_of_lt (Nat.le_add_left _ _) h)
  · intro h
    have : 256 ^ s * ((b[s]'(by omega)).toNat + 1) ≤ 256 ^ s * 2 ^ r := Nat.mul_le_mul_left _ h
    rw [Nat.mul_add, Nat.mul_one] at this
    exact Nat.lt_of_lt_of_le (by rw [Nat.add_comm]; exact Nat.add_lt_add_left hlt _) this
/-- part of a byte -/
theorem byte_part (N q r t : Nat) (h : r + t ≤ 8) : N / 256 ^ q % 256 / 2 ^ r % 2 ^ t = N / 2 ^ (8 * q + r) % 2 ^ t := by
  have e : N / 2 ^ (8 * q + r) = N / 256 ^ q / 2 ^ r := by rw [pow8, Nat.div_div_eq_div_mul]
  rw [e]
  obtain ⟨M, hM⟩ : ∃ M, M = N / 256 ^ q := ⟨_, rfl⟩
  rw [← hM]
  have h256 : (256 : Nat) = 2 ^ r * 2 ^ (8 - r) := by rw [← Nat.pow_add, Nat.add_sub_cancel' (Nat.le_trans (Nat.le_add_right r t) h)]
  rw [h256, Nat.mod_mul_right_div_self, Nat.mod_mod_of_dvd]
  exact Nat.pow_dvd_pow 2 (by omega)
theorem join_bits (B a h t : Nat) : B / 2 ^ a % 2 ^ h + (B / 2 ^ (a + h) % 2 ^ t) * 2 ^ h = B / 2 ^ a % 2 ^ (h + t) := by
  rw [Nat.pow_add 2 a h, ← Nat.div_div_eq_div_mul, Nat.pow_add 2 h t, Nat.mod_mul, Nat.mul_comm (2 ^ h)]

theorem up_sub {w h t m : Nat} (hm : w - h ≤ m + 1) (ht : 1 ≤ t) : w - (h + t) ≤ m := by omega
theorem up_256 {x : Int} (h : 0 ≤ x ∧ x < 256) : x.toNat < 256 := by omega
theorem up_2_64 {x : Nat} (h : x < 256) : (x : Int) < 2 ^ 64 := Int.lt_trans (Int.ofNat_lt.2 h) (by decide)
theorem up_cast {x : Nat} (h : x < 256) : (x : Int) < 18446744073709551616 := by omega
/-! bits.Unpack -/
theorem shr8' {x : Int} {r : Nat} (h0 : 0 ≤ x) (hr : r ≤ 8) : shr .u8 x r = ((x.toNat / 2 ^ r : Nat) : Int) := by
  obtain ⟨a, rfl⟩ := Int.eq_ofNat_of_zero_le h0
  unfold shr
  have hb : IntKind.u8.bits = 8 := rfl
  rw [hb, Int.toNat_natCast, Nat.min_eq_left hr, Int.toNat_natCast]; simp
theorem shl64 {x n : Nat} (hn : n ≤ 64) (h : x * 2 ^ n < 18446744073709551616) : shl .u64 (x : Int) n = ((x * 2 ^ n : Nat) : Int) := by
  unfold shl
  have hb : IntKind.u64.bits = 64 := rfl
  rw [hb, Int.toNat_natCast, Nat.min_eq_left hn]
  have e : (x : Int) * 2 ^ n = ((x * 2 ^ n : Nat) : Int) := by simp
  rw [e, u64w_id (Int.natCast_nonneg _) (Int.ofNat_lt.2 h)]
theorem mask64 {x t : Nat} (hx : x < 256) (ht : t ≤ 8) : bits .and .u64 (x : Int) (IntKind.u64.wrap (shl .u64 1 (t : Int) - 1)) = ((x % 2 ^ t : Nat) : Int) := by
  have hp : 2 ^ t ≤ 256 := Nat.pow_le_pow_right (n := 2) (by decide) (j := 8) ht
  have hp1 : 1 ≤ 2 ^ t := Nat.one_le_two_pow
  have e1 : shl .u64 1 (t : Int) = ((2 ^ t : Nat) : Int) := by
    have := shl64 (x := 1) (n := t) (by omega) (by rw [Nat.one_mul]; omega)
    rw [Nat.one_mul] at this; exact this
  have e2 : IntKind.u64.wrap (((2 ^ t : Nat) : Int) - 1) = (2 : Int) ^ t - 1 := by
    rw [u64w_id (by omega) (by omega)]; simp
  rw [e1, e2, bits_mask .u64 64 (by decide) wraps_u64 t (by omega) (x : Int) (Int.natCast_nonneg _) (up_2_64 hx)]
  simp
theorem or_join64 {v p h t : Nat} (hv : v < 2 ^ h) (hp : p < 2 ^ t) (ht : h + t ≤ 64) : bits .or .u64 (v : Int) ((p * 2 ^ h : Nat) : Int) = ((v + p * 2 ^ h : Nat) : Int) := by
  have h1 : v < 2 ^ 64 := Nat.lt_of_lt_of_le hv (Nat.pow_le_pow_right (by decide) (by omega))
  have h2 : p * 2 ^ h < 2 ^ 64 := by
    have : p * 2 ^ h < 2 ^ t * 2 ^ h := Nat.mul_lt_mul_of_pos_right hp (Nat.two_pow_pos h)
    rw [← Nat.pow_add] at this
    exact Nat.lt_of_lt_of_le this (Nat.pow_le_pow_right (by decide) (by omega))
  rw [(bits_nat .u64 64 (by decide) wraps_u64 v (p * 2 ^ h) h1 h2).2, Nat.or_comm, Nat.mul_comm p, ← Nat.two_pow_add_eq_or_of_lt hv p, Nat.add_comm]
theorem up_nat (q r w have_ take ol : Nat) (hr : r < 8) (hlt : have_ < w) (hw : w ≤ 64) (hol : ol < 10000000) (htk : take = min (8 - r) (w - have_)) (hlen : 8 * q + r + (w - have_) ≤ 8 * ol) :
    q < ol ∧ 1 ≤ take ∧ take ≤ 8 ∧ r + take ≤ 8 ∧ have_ + take ≤ w ∧ wrap64 ((w : Int) - (have_ : Int)) = ((w - have_ : Nat) : Int) ∧
    wrap64 (((8 * q + r : Nat) : Int) + (take : Int)) = ((8 * q + r + take : Nat) : Int) ∧ wrap64 ((have_ : Int) + (take : Int)) = ((have_ + take : Nat) : Int) ∧ IntKind.u64.wrap (r : Int) = (r : Int) ∧ IntKind.u64.wrap (take : Int) = (take : Int) ∧ IntKind.u64.wrap (have_ : Int) = (have_ : Int) ∧ q < 10000000 ∧ 8 * q + r + take + (w - (have_ + take)) ≤ 8 * ol := by
  refine ⟨by omega, by omega, by omega, by omega, by omega, ?_, ?_, ?_, u64w_id (by omega) (by omega), u64w_id (by omega) (by omega), u64w_id (by omega) (by omega), by omega, by omega⟩
  · rw [w64 (by omega) (by omega)]; omega
  · rw [w64 (by omega) (by omega)]; omega
  · rw [w64 (by omega) (by omega)]; omega
theorem unpack_l1 (b : List Int) (hb : Bytes b) (hol : b.length < 10000000) (w : Nat) (hw : w ≤ 64) (out : List Int) (hout : out.length < 17592186044416) (n i : Int) (a : Nat) :
    ∀ (m have_ q r : Nat), w - have_ ≤ m → have_ ≤ w → a + have_ = 8 * q + r → r < 8 → 8 * q + r + (w - have_) ≤ 8 * b.length → ∀ res, Ev (fun k => bits_Unpack.l0 k b w (out ++ [((leN b / 2 ^ a % 2 ^ w : Nat) : Int)]) ((a + w : Nat) : Int) n (wrap64 (i + 1))) res →
      Ev (fun k => bits_Unpack.l1 k b w out ((8 * q + r : Nat) : Int) ((leN b / 2 ^ a % 2 ^ have_ : Nat) : Int) have_ n i) res := by
  intro m
  induction m with
  | zero =>
    intro have_ q r hm hh ha hr hlen res h
    have : have_ = w := Nat.le_antisymm hh (Nat.le_of_sub_eq_zero (Nat.le_zero.1 hm))
    subst this
    refine Ev.step (fun k => ?_) h
    simp only [bits_Unpack.l1]
    rw [if_pos trivial, if_pos hout, ← ha]
  | succ m ih =>
    intro have_ q r hm hh ha hr hlen res h
    by_cases he : have_ = w
    · subst he
      refine Ev.step (fun k => ?_) h
      simp only [bits_Unpack.l1]
      rw [if_pos trivial, if_pos hout, ← ha]
    · have hlt : have_ < w := Nat.lt_of_le_of_ne hh he
      obtain ⟨take, htk⟩ : ∃ t, t = min (8 - r) (w - have_) := ⟨_, rfl⟩
      obtain ⟨g1, g2, g3, g4, g5, g6, g7, g8, g9, g10, g11, g12, g13⟩ := up_nat q r w have_ take b.length hr hlt hw hol htk hlen
      have e1 := pk_e1 q r hr (Nat.lt_trans g12 (by decide))
      have e2 := pk_e2 q r hr
      have e3 := pk_e3 r (w - have_) take hr htk
      obtain ⟨q', r', hqr, hr'⟩ : ∃ q' r', 8 * q + r + take = 8 * q' + r' ∧ r' < 8 := ⟨(8 * q + r + take) / 8, (8 * q + r + take) % 8, (Nat.div_add_mod _ 8).symm, Nat.mod_lt _ (by decide)⟩
      have hsub : w - (have_ + take) ≤ m := up_sub hm g2
      have hih := ih (have_ + take) q' r' hsub g5 (by rw [← hqr, ← ha, Nat.add_assoc]) hr' (by rw [← hqr]; exact g13) res h
      have hbq := hb b[q] (List.getElem_mem g1)
      have hpart := byte_part (leN b) q r take g4
      rw [← leN_at b q g1 hb, ← ha] at hpart
      have hb256 : (b[q]).toNat / 2 ^ r < 256 := Nat.lt_of_le_of_lt (Nat.div_le_self _ _) (up_256 hbq)
      have s1 : IntKind.u64.wrap (shr .u8 (rd b (q : Int)) (r : Int)) = (((b[q]).toNat / 2 ^ r : Nat) : Int) := by
        rw [rd_get g1, shr8' hbq.1 (Nat.le_of_lt hr), u64w_id (Int.natCast_nonneg _) (up_cast hb256)]
      have hplt : leN b / 2 ^ (a + have_) % 2 ^ take < 2 ^ take := Nat.mod_lt _ (Nat.two_pow_pos _)
      have hvlt : leN b / 2 ^ a % 2 ^ have_ < 2 ^ have_ := Nat.mod_lt _ (Nat.two_pow_pos _)
      have h64 : have_ + take ≤ 64 := Nat.le_trans g5 hw
      have s2 : shl .u64 ((leN b / 2 ^ (a + have_) % 2 ^ take : Nat) : Int) (have_ : Int) = ((leN b / 2 ^ (a + have_) % 2 ^ take * 2 ^ have_ : Nat) : Int) := by
        refine shl64 (Nat.le_trans (Nat.le_add_right _ _) h64) ?_
        have : leN b / 2 ^ (a + have_) % 2 ^ take * 2 ^ have_ < 2 ^ take * 2 ^ have_ := Nat.mul_lt_mul_of_pos_right hplt (Nat.two_pow_pos _)
        rw [← Nat.pow_add] at this
        exact Nat.lt_of_lt_of_le this (Nat.le_trans (Nat.pow_le_pow_right (n := 2) (by decide) (j := 64) (by rw [Nat.add_comm]; exact h64)) (by decide))
      refine Ev.step (fun k => ?_) hih
      simp only [bits_Unpack.l1]
      rw [if_neg (fun hc => he (Int.ofNat_inj.1 hc)), e1, if_pos (Int.natCast_nonneg _), if_pos (Int.ofNat_lt.2 g1), e2, g9, if_pos (Int.natCast_nonneg _), g6, e3, g10, if_pos (Int.natCast_nonneg _), g11, if_pos (Int.natCast_nonneg _), s1, mask64 hb256 g3, hpart, s2, or_join64 hvlt hplt h64, join_bits, g7, g8, hqr]
theorem unpack_l0 (b : List Int) (hb : Bytes b) (w : Nat) (hw : w ≤ 64) (n : Nat) (hn : n ≤ 65536) (hlen : w * n ≤ 8 * b.length) (hol : b.length < 10000000) :
    ∀ (d i : Nat), n = i + d → Ev (fun k => bits_Unpack.l0 k b w (nums_ w i (leN b)) ((w * i : Nat) : Int) n i) (nums_ w n (leN b), 0) := by
  intro d
  induction d with
  | zero =>
    intro i hd
    have : i = n := hd.symm
    subst this
    refine Ev.step (f := fun _ => some (nums_ w i (leN b), 0)) (fun k => ?_) (Ev.now _)
    simp only [bits_Unpack.l0]
    rw [if_neg (Int.lt_irrefl _)]
  | succ d ih =>
    intro i hd
    have hrec := ih (i + 1) (by omega)
    have hwi : w * i + w ≤ 8 * b.length := by
      have : w * (i + 1) ≤ w * n := Nat.mul_le_mul_left _ (by omega)
      rw [Nat.mul_add, Nat.mul_one] at this; omega
    refine Ev.step (fun k => ?_) (unpack_l1 b hb hol w hw (nums_ w i (leN b)) (by rw [nums_length]; omega) n i (w * i) w 0 (w * i / 8) (w * i % 8) (Nat.le_refl _) (Nat.zero_le _) (by rw [Nat.add_zero, Nat.div_add_mod]) (Nat.mod_lt _ (by decide)) (by rw [Nat.div_add_mod, Nat.sub_zero]; exact hwi) _ (by
      rw [← nums_snoc, w64 (by omega) (by omega)]
      rw [Nat.mul_add, Nat.mul_one] at hrec
      exact hrec))
    simp only [bits_Unpack.l0]
    rw [if_pos (by omega), Nat.div_add_mod, Nat.pow_zero, Nat.mod_one]; rfl
theorem up_size {n w : Nat} (h : n * w % 8 = 0) : sizeN n w * 8 = n * w := by unfold sizeN; omega
theorem up_size2 {n w : Nat} (h : ¬ n * w % 8 = 0) : n * w = 8 * (sizeN n w - 1) + n * w % 8 ∧ sizeN n w = sizeN n w - 1 + 1 := by unfold sizeN; omega
theorem unpack_f (b : List Int) (hb : Bytes b) (n w : Int) : Ev (fun k => bits_Unpack.f k b n w) (unpacked b n w) := by
  unfold bits_Unpack.f unpacked
  rw [size_f]
  refine Ev.bind (Ev.now _) ?_
  by_cases ho : okSize n w
  · obtain ⟨h1, h2, h3, h4⟩ := id ho
    obtain ⟨m, rfl⟩ := Int.eq_ofNat_of_zero_le h3
    obtain ⟨n, rfl⟩ := Int.eq_ofNat_of_zero_le h1
    simp only [if_pos ho, Int.toNat_natCast]
    have hnw : n * m ≤ 65536 * 64 := Nat.mul_le_mul (by omega) (by omega)
    have hs0 : sizeN n m = (n * m + 7) / 8 := rfl
    have hneg : ¬ ((sizeN n m : Nat) : Int) < 0 := Int.not_lt.2 (Int.natCast_nonneg _)
    simp only [if_neg hneg]
    by_cases c1 : b.length < sizeN n m
    · simp only [if_pos (Int.ofNat_lt.2 c1), if_pos c1]; exact Ev.now _
    simp only [if_neg (fun h => c1 (Int.ofNat_lt.1 h)), if_neg c1]
    by_cases c2 : sizeN n m < b.length
    · have : (b.length : Int) > ((sizeN n m : Nat) : Int) := Int.ofNat_lt.2 c2
      simp only [if_pos this, if_pos c2]; exact Ev.now _
    have c2' : ¬ (b.length : Int) > ((sizeN n m : Nat) : Int) := fun h => c2 (Int.ofNat_lt.1 h)
    simp only [if_neg c2', if_neg c2]
    have hlen : b.length = sizeN n m := by omega
    have emul : wrap64 ((n : Int) * (m : Int)) = ((n * m : Nat) : Int) := by rw [← Int.natCast_mul, w64 (by omega) (by omega)]
    have emod : Int.tmod ((n * m : Nat) : Int) 8 = ((n * m % 8 : Nat) : Int) := by rw [Int.tmod_eq_emod_of_nonneg (Int.natCast_nonneg _)]; omega
    rw [emul, emod]
    have hol : b.length < 10000000 := by omega
    have hgo : leN b < 2 ^ (m * n) → Ev (fun k => bits_Unpack.l0 k b m [] 0 n 0) (nums_ m n (leN b), 0) := fun _ => by
      exact unpack_l0 b hb m (by omega) n (by omega) (by rw [hlen, Nat.mul_comm m]; omega) hol n 0 (by omega)
    by_cases c3 : n * m % 8 = 0
    · have c3' : ((n * m % 8 : Nat) : Int) = 0 := by rw [c3]; rfl
      have hlt : leN b < 2 ^ (m * n) := by
        have := leN_lt b hb
        rw [show (256 : Nat) = 2 ^ 8 by decide, ← Nat.pow_mul, hlen, Nat.mul_comm 8, up_size c3, Nat.mul_comm n] at this; exact this
      simp only [if_pos c3', if_pos hlt]
      exact hgo hlt
    · have c3' : ¬ ((n * m % 8 : Nat) : Int) = 0 := fun h => c3 (Int.ofNat_inj.1 h)
      obtain ⟨u1, u2⟩ := up_size2 c3
      have hpos : sizeN n m - 1 < b.length := by omega
      have e1 : wrap64 (((sizeN n m : Nat) : Int) - 1) = ((sizeN n m - 1 : Nat) : Int) := by rw [w64 (by omega) (by omega)]; omega
      have e2 : IntKind.u64.wrap ((n * m % 8 : Nat) : Int) = ((n * m % 8 : Nat) : Int) := u64w_id (by omega) (by omega)
      have hbq := hb b[sizeN n m - 1] (List.getElem_mem hpos)
      have hiff := leN_last b (sizeN n m - 1) (n * m % 8) (by omega) hb
      rw [← u1, Nat.mul_comm n] at hiff
      rw [e1, e2]
      simp only [if_neg c3', if_pos (Int.natCast_nonneg (sizeN n m - 1)), if_pos (Int.ofNat_lt.2 hpos), if_pos (Int.natCast_nonneg (n * m % 8))]
      rw [rd_get hpos, shr8' hbq.1 (Nat.le_of_lt (Nat.mod_lt _ (by decide)))]
      by_cases c4 : leN b < 2 ^ (m * n)
      · have hz : (((b[sizeN n m - 1]).toNat / 2 ^ (n * m % 8) : Nat) : Int) = 0 := by rw [Nat.mul_comm n] at *; rw [Nat.div_eq_of_lt (hiff.1 c4)]; rfl
        simp only [if_pos hz, if_pos c4]
        exact hgo c4
      · have hz : ¬ (((b[sizeN n m - 1]).toNat / 2 ^ (n * m % 8) : Nat) : Int) = 0 := fun h => c4 (hiff.2 (by
          rcases Nat.div_eq_zero_iff.1 (Int.ofNat_inj.1 h) with h | h
          · exact absurd h (Nat.ne_of_gt (Nat.two_pow_pos _))
          · rw [Nat.mul_comm n] at h; exact h))
        simp only [if_neg hz, if_neg c4]
        exact Ev.now _
  · simp only [if_neg ho]
    have : (-1 : Int) < 0 := by decide
    simp only [if_pos this]
    exact Ev.now _

/-! the short number that begins bytes: how many bytes it has, or an error -/
def sh : List Int → Nat → Nat → Int × Int × Int
  | [], _, _ => (0, 0, 2)
  | b :: l, n, v =>
    if 9 < n ∨ (n = 9 ∧ 1 < b.toNat % 128) ∨ (0 < n ∧ b = 0) then (0, 0, 4)
    else if b < 128 then (((v + b.toNat % 128 * 128 ^ n : Nat) : Int), ((n + 1 : Nat) : Int), 0)
    else sh l (n + 1) (v + b.toNat % 128 * 128 ^ n)
theorem or_add (v x n : Nat) (h : v < 2 ^ n) : v ||| (x * 2 ^ n) = v + x * 2 ^ n := by
  rw [Nat.or_comm, Nat.mul_comm x, ← Nat.two_pow_add_eq_or_of_lt h, Nat.add_comm]
theorem shl64s {x n : Nat} (hn : n ≤ 64) (h : x * 2 ^ n < 18446744073709551616) : shl .u64 (x : Int) n = ((x * 2 ^ n : Nat) : Int) := by
  unfold shl
  rw [Int.toNat_natCast, show IntKind.u64.bits = 64 from rfl, Nat.min_eq_left hn, show ((x : Int) * 2 ^ n) = ((x * 2 ^ n : Nat) : Int) by simp, u64w_id (Int.natCast_nonneg _) (by omega)]
theorem sh_bound {c n v : Nat} (hn : n ≤ 9) (h9 : ¬ (n = 9 ∧ 1 < c % 128)) (hv : v < 128 ^ n) : v + c % 128 * 128 ^ n < 18446744073709551616 ∧ v + c % 128 * 128 ^ n < 128 ^ (n + 1) := by
  have h9' : n = 9 → c % 128 ≤ 1 := fun h => by omega
  clear h9
  rcases (show n = 0 ∨ n = 1 ∨ n = 2 ∨ n = 3 ∨ n = 4 ∨ n = 5 ∨ n = 6 ∨ n = 7 ∨ n = 8 ∨ n = 9 by omega) with rfl | rfl | rfl | rfl | rfl | rfl | rfl | rfl | rfl | rfl <;> simp only [Nat.reducePow, Nat.reduceAdd] at hv ⊢ <;> first | omega | (have := h9' rfl; omega)
theorem sh_or {c n v : Nat} (hn : n ≤ 9) (h9 : ¬ (n = 9 ∧ 1 < c % 128)) (hv : v < 128 ^ n) : Go.bits .or .u64 (v : Int) (shl .u64 ((c % 128 : Nat) : Int) (IntKind.u64.wrap ((7 * n : Nat) : Int))) = ((v + c % 128 * 128 ^ n : Nat) : Int) := by
  have hb := (sh_bound hn h9 hv).1
  have e : 128 ^ n = 2 ^ (7 * n) := by rw [Nat.pow_mul]
  rw [u64w_id (by omega) (by omega)]
  rw [e] at hb hv ⊢
  rw [shl64s (by omega) (Nat.lt_of_le_of_lt (Nat.le_add_left _ _) hb), bits_or_u64_nat _ _ (Nat.lt_of_le_of_lt (Nat.le_add_right _ _) hb) (Nat.lt_of_le_of_lt (Nat.le_add_left _ _) hb), or_add _ _ _ hv]
theorem and128 : ∀ c : Nat, c < 256 → (Go.bits .and .u8 (c : Int) 128 = 0 ↔ c < 128) := by decide +kernel
theorem and127' : ∀ c : Nat, c < 256 → Go.bits .and .u8 (c : Int) 127 = ((c % 128 : Nat) : Int) := by decide +kernel
theorem and127 {c : Nat} (h : c < 256) : IntKind.u64.wrap (Go.bits .and .u8 (c : Int) 127) = ((c % 128 : Nat) : Int) := by
  rw [and127' c h, u64w_id (by omega) (by omega)]
theorem shr9 {c : Nat} : (shr .u64 ((c % 128 : Nat) : Int) (IntKind.u64.wrap (wrap64 (64 - ((7 * 9 : Nat) : Int)))) != 0) = decide (1 < c % 128) := by
  have e : IntKind.u64.wrap (wrap64 (64 - ((7 * 9 : Nat) : Int))) = 1 := by rw [w64 (by omega) (by omega), u64w_id (by omega) (by omega)]; rfl
  rw [e]; unfold shr
  rw [show (2 : Int) ^ min (1 : Int).toNat IntKind.u64.bits = 2 by decide]
  by_cases h : 1 < c % 128
  · rw [decide_eq_true h, bne_iff_ne]; omega
  · rw [decide_eq_false h]; simp only [bne_eq_false_iff_eq]; omega
theorem short_at (L : List Int) (_ : L.length < 4611686018427387904) (k n v c : Nat) (h : n < L.length) (hc : L[n] = (c : Int)) (hc2 : c < 256) (hn : n ≤ 9) :
    num_short.l0 (k + 1) L v n ((7 * n : Nat) : Int) = num_short.j1 k L v ((n + 1 : Nat) : Int) ((7 * n : Nat) : Int) c ((c % 128 : Nat) : Int) (decide (n = 9 ∧ 1 < c % 128)) := by
  have hrd : rd L (n : Int) = (c : Int) := by rw [rd_get h, hc]
  simp only [num_short.l0]
  rw [if_neg (by omega), if_pos (by omega), if_pos (by omega), if_neg (by omega), hrd, and127 hc2, w64 (n := (n : Int) + 1) (by omega) (by omega), w64 (n := ((7 * n : Nat) : Int) + 7) (by omega) (by omega)]
  rw [show ((n : Int) + 1) = ((n + 1 : Nat) : Int) by omega]
  by_cases h9 : n = 9
  · subst h9
    rw [if_pos (by omega), if_pos (by rw [u64w]; omega), shr9]
    simp
  · rw [if_neg (by omega), decide_eq_false (by omega)]
theorem short_l0 (L : List Int) (hw : ∀ x ∈ L, 0 ≤ x ∧ x < 256) (hl : L.length < 4611686018427387904) : ∀ (d n v : Nat), L.length = n + d → n ≤ 10 → v < 128 ^ n → Ev (fun k => num_short.l0 k L v n ((7 * n : Nat) : Int)) (sh (L.drop n) n v) := by
  intro d
  induction d with
  | zero =>
    intro n v hd hn hv
    rw [List.drop_of_length_le (by omega)]
    exact Ev.step (f := fun _ => some (0, 0, 2)) (fun k => by simp only [num_short.l0]; rw [if_pos (by omega)]) (Ev.now _)
  | succ d ih =>
    intro n v hd hn hv
    have hlt : n < L.length := by omega
    obtain ⟨c, hc, hc2⟩ : ∃ c : Nat, L[n] = (c : Int) ∧ c < 256 := ⟨L[n].toNat, by have := hw _ (List.getElem_mem hlt); omega, by have := hw _ (List.getElem_mem hlt); omega⟩
    have hrd : rd L (n : Int) = (c : Int) := by rw [rd_get hlt, hc]
    rw [dropc L n hlt, hc]
    simp only [sh, Int.toNat_natCast]
    by_cases hN : 9 < n
    · rw [if_pos (.inl hN)]
      refine Ev.step (f := fun k => num_short.j1 k L v (wrap64 (n + 1)) ((7 * n : Nat) : Int) (rd L n) (IntKind.u64.wrap (Go.bits .and .u8 (rd L n) 127)) (decide ((7 * n : Nat) ≥ (64 : Int)))) (fun k => by simp only [num_short.l0]; rw [if_neg (by omega), if_pos (by omega), if_pos (by omega), if_pos (by omega)]) ?_
      refine Ev.step (f := fun _ => some (0, 0, 4)) (fun k => by simp only [num_short.j1]; rw [if_pos (decide_eq_true (by omega))]) (Ev.now _)
    · refine Ev.step (short_at L hl · n v c hlt hc hc2 (by omega)) ?_
      by_cases h9 : n = 9 ∧ 1 < c % 128
      · rw [if_pos (.inr (.inl h9)), decide_eq_true h9]
        exact Ev.step (f := fun _ => some (0, 0, 4)) (fun k => by simp only [num_short.j1]; rw [if_pos trivial]) (Ev.now _)
      · rw [decide_eq_false h9]
        refine Ev.step (f := fun k => num_short.j2 k L v ((n + 1 : Nat) : Int) ((7 * n : Nat) : Int) c ((c % 128 : Nat) : Int) (decide (0 < n ∧ c = 0))) (fun k => by
          simp only [num_short.j1]
          rw [if_neg (by decide)]
          by_cases h0 : c = 0
          · rw [if_pos (by omega)]; congr 1; exact decide_eq_decide.mpr (by omega)
          · rw [if_neg (by omega), decide_eq_false (by omega)]) ?_
        by_cases h0 : 0 < n ∧ c = 0
        · rw [if_pos (.inr (.inr ⟨h0.1, by omega⟩)), decide_eq_true h0]
          exact Ev.step (f := fun _ => some (0, 0, 4)) (fun k => by simp only [num_short.j2]; rw [if_pos trivial]) (Ev.now _)
        · rw [if_neg (by rintro (h | h | h); exact hN h; exact h9 h; exact h0 ⟨h.1, by omega⟩), decide_eq_false h0]
          have hor := sh_or (c := c) (n := n) (v := v) (by omega) h9 hv
          have hbd := sh_bound (c := c) (n := n) (v := v) (by omega) h9 hv
          have hu : IntKind.u64.wrap ((7 * n : Nat) : Int) = ((7 * n : Nat) : Int) := u64w_id (by omega) (by omega)
          generalize v + c % 128 * 128 ^ n = v2 at hor hbd ⊢
          by_cases h8 : c < 128
          · rw [if_pos (by omega)]
            exact Ev.step (f := fun _ => some ((v2 : Int), ((n + 1 : Nat) : Int), 0)) (fun k => by simp only [num_short.j2]; rw [if_neg (by decide), if_pos (by rw [hu]; exact Int.natCast_nonneg _), if_pos ((and128 c hc2).2 h8), hor]) (Ev.now _)
          · rw [if_neg (by omega)]
            refine Ev.step (f := fun k => num_short.l0 k L v2 ((n + 1 : Nat) : Int) ((7 * (n + 1) : Nat) : Int)) (fun k => by
              simp only [num_short.j2]
              rw [if_neg (by decide), if_pos (by rw [hu]; exact Int.natCast_nonneg _), if_neg (fun h => h8 ((and128 c hc2).1 h)), hor, w64 (by omega) (by omega)]
              rw [show ((7 * n : Nat) : Int) + 7 = ((7 * (n + 1) : Nat) : Int) by omega]) ?_
            exact ih (n + 1) v2 (by omega) (by omega) hbd.2
theorem short_f (L : List Int) (hw : ∀ x ∈ L, 0 ≤ x ∧ x < 256) (hl : L.length < 4611686018427387904) : Ev (fun k => num_short.f k L) (sh L 0 0) := by
  have := short_l0 L hw hl L.length 0 0 (by omega) (by omega) (by decide)
  rw [List.drop_zero] at this
  exact Ev.congr (fun k => by unfold num_short.f; rfl) this

/-! what Var comes to -/
theorem sh_cases : ∀ (l : List Int) (n v : Nat), (∀ x ∈ l, 0 ≤ x ∧ x < 256) → n ≤ 10 → v < 128 ^ n →
    sh l n v = (0, 0, 2) ∨ sh l n v = (0, 0, 4) ∨ ∃ v' m : Nat, sh l n v = ((v' : Int), (m : Int), 0) ∧ n < m ∧ m ≤ n + l.length ∧ v' < 18446744073709551616 := by
  intro l
  induction l with
  | nil => intro n v _ _ _; exact .inl rfl
  | cons b l ih =>
    intro n v hw hn hv
    obtain ⟨c, rfl, hc2⟩ : ∃ c : Nat, b = (c : Int) ∧ c < 256 := ⟨b.toNat, by have := hw b (by simp); omega, by have := hw b (by simp); omega⟩
    simp only [sh, Int.toNat_natCast]
    by_cases hE : 9 < n ∨ (n = 9 ∧ 1 < c % 128) ∨ (0 < n ∧ (c : Int) = 0)
    · rw [if_pos hE]; exact .inr (.inl rfl)
    · rw [if_neg hE]
      have hbd := sh_bound (c := c) (n := n) (v := v) (by omega) (by omega) hv
      generalize v + c % 128 * 128 ^ n = v2 at hbd ⊢
      by_cases h8 : (c : Int) < 128
      · rw [if_pos h8]
        exact .inr (.inr ⟨v2, n + 1, rfl, by omega, by simp only [List.length_cons]; omega, hbd.1⟩)
      · rw [if_neg h8]
        rcases ih (n + 1) v2 (fun x hx => hw x (by simp [hx])) (by omega) hbd.2 with h | h | ⟨v', m, h1, h2, h3, h4⟩
        · exact .inl h
        · exact .inr (.inl h)
        · exact .inr (.inr ⟨v', m, h1, by omega, by simp only [List.length_cons]; omega, h4⟩)
theorem drop_bytes {L : List Int} (hw : ∀ x ∈ L, 0 ≤ x ∧ x < 256) (a : Nat) : ∀ x ∈ L.drop a, 0 ≤ x ∧ x < 256 := fun x hx => hw x (List.mem_of_mem_drop hx)

theorem nvar_ok {b : List Int} (hw : ∀ x ∈ b, 0 ≤ x ∧ x < 256) (hl : b.length < 4611686018427387904) {a v m : Nat} {on : Int} (ha : a ≤ b.length) (h : sh (b.drop a) 0 0 = ((v : Int), (m : Int), 0)) (hm : a + m ≤ b.length) :
    Ev (fun k => num_Reader_Var.f k b a 0 on) ((v : Int), ((a + m : Nat) : Int), 0, on) := by
  have hs := short_f (b.drop a) (drop_bytes hw a) (by rw [List.length_drop]; omega)
  rw [h] at hs
  refine Ev.congr (f := fun k => _) (fun k => by unfold num_Reader_Var.f; rw [if_neg (by simp), if_pos ⟨Int.natCast_nonneg _, by omega⟩, Int.toNat_natCast]) (Ev.bind hs ?_)
  refine ⟨0, fun k _ => ?_⟩
  simp only [num_Reader_Fail.f, num_Reader_Fail.next, Option.bind_some]
  rw [w64 (by omega) (by omega)]
  simp
theorem nvar_err {b : List Int} (hw : ∀ x ∈ b, 0 ≤ x ∧ x < 256) (hl : b.length < 4611686018427387904) {a : Nat} {on x : Int} (ha : a ≤ b.length) (hx : x = 2 ∨ x = 4) (h : sh (b.drop a) 0 0 = (0, 0, x)) :
    Ev (fun k => num_Reader_Var.f k b a 0 on) (0, (a : Int), x, (a : Int)) := by
  have hs := short_f (b.drop a) (drop_bytes hw a) (by rw [List.length_drop]; omega)
  rw [h] at hs
  refine Ev.congr (f := fun k => _) (fun k => by unfold num_Reader_Var.f; rw [if_neg (by simp), if_pos ⟨Int.natCast_nonneg _, by omega⟩, Int.toNat_natCast]) (Ev.bind hs ?_)
  refine ⟨0, fun k _ => ?_⟩
  rcases hx with rfl | rfl
  all_goals
    simp [num_Reader_Fail.f, num_Reader_Fail.next]
    rw [w64 (by omega) (by omega)]

/-! one byte taken as a number -/
theorem orM (t : Nat) {M : Int} (hM : M = ((2 ^ t : Nat) : Int)) (h c : Nat) {A : Int} (hA : A = ((h * 2 ^ (8 + t) : Nat) : Int)) (hc : c < 256) (hb : (h * 256 + c) * 2 ^ t < 18446744073709551616) :
    Go.bits .or .u64 A (IntKind.u64.wrap (IntKind.u64.wrap (c : Int) * M)) = (((h * 256 + c) * 2 ^ t : Nat) : Int) := by
  have e : (h * 256 + c) * 2 ^ t = h * 2 ^ (8 + t) + c * 2 ^ t := by rw [Nat.pow_add, Nat.add_mul, ← Nat.mul_assoc]
  have hlt : c * 2 ^ t < 2 ^ (8 + t) := by rw [Nat.pow_add]; exact Nat.mul_lt_mul_of_pos_right hc (Nat.two_pow_pos t)
  rw [e] at hb ⊢
  rw [hA, hM, u64w_id (n := (c : Int)) (by omega) (by omega), ← Int.natCast_mul, u64w_id (by exact Int.natCast_nonneg _) (Int.ofNat_lt.mpr (Nat.lt_of_le_of_lt (Nat.le_add_left _ _) hb)),
    bits_or_u64_nat _ _ (Nat.lt_of_le_of_lt (Nat.le_add_right _ _) hb) (Nat.lt_of_le_of_lt (Nat.le_add_left _ _) hb), Nat.mul_comm h, ← Nat.two_pow_add_eq_or_of_lt hlt]
theorem orL (h c : Nat) {A : Int} (hA : A = ((h * 256 : Nat) : Int)) (hc : c < 256) (hb : h * 256 + c < 18446744073709551616) :
    Go.bits .or .u64 A (IntKind.u64.wrap (c : Int)) = ((h * 256 + c : Nat) : Int) := by
  have := orM 0 (M := 1) (by rfl) h c (A := A) (by rw [hA, show 2 ^ (8 + 0) = 256 from rfl]) hc (by rw [Nat.pow_zero, Nat.mul_one]; exact hb)
  rw [Int.mul_one, u64w_id (n := IntKind.u64.wrap (c : Int)) (by rw [u64w]; omega) (by rw [u64w]; omega), Nat.pow_zero, Nat.mul_one] at this
  exact this
theorem fixg_1 (k : Nat) (b0 : Nat) (h0 : b0 < 256) {L : List Int} {a e on A E O : Int} (ht : num_Reader_Take.f L a e on 1 = some (([(b0 : Int)] : List Int), A, E, O)) : num_Reader_Fix.j0 (k + 1) 1 false L a e on = some ((((0) * 256 + b0 : Nat) : Int), A, E, O) := by
  simp only [num_Reader_Fix.j0]
  rw [if_neg (by decide), ht, Option.bind_some]
  rw [if_neg (by simp), if_neg (by simp), if_neg (by simp), if_neg (by simp), if_neg (by simp), if_neg (by simp), if_neg (by simp), if_pos (by simp), if_pos (by simp)]
  rw [show rd ([(b0 : Int)] : List Int) 0 = (b0 : Int) from rfl]
  rw [orL (0) b0 (by first | omega | (simp only [Nat.reducePow]; omega) | (simp only [Nat.reducePow]; done)) h0 (by omega)]

/-! a short number that is put is read as it was; what is read is put as it was -/
theorem pow_split (w n : Nat) : w % 128 * 128 ^ n + w / 128 * 128 ^ (n + 1) = w * 128 ^ n := by
  have e : w / 128 * 128 ^ (n + 1) = 128 * (w / 128) * 128 ^ n := by rw [Nat.pow_succ]; ac_rfl
  rw [e, ← Nat.add_mul, Nat.mod_add_div]
theorem h9_of {w n : Nat} (hb : w * 128 ^ n < 18446744073709551616) : n = 9 → w ≤ 1 := by
  rintro rfl
  simp only [Nat.reducePow] at hb
  omega
theorem sh_leb (rest : List Int) : ∀ (w n v0 : Nat), n ≤ 9 → (0 < n → 0 < w) → w * 128 ^ n < 18446744073709551616 →
    sh (leb w ++ rest) n v0 = (((v0 + w * 128 ^ n : Nat) : Int), ((n + (leb w).length : Nat) : Int), 0) := by
  intro w
  induction w using Nat.strongRecOn with
  | _ w ih =>
  intro n v0 hn h0 hb
  have h9 := h9_of hb
  have e2 := pow_split w n
  have hb' : w / 128 * 128 ^ (n + 1) < 18446744073709551616 := Nat.lt_of_le_of_lt (by rw [← e2]; exact Nat.le_add_left _ _) hb
  clear hb
  by_cases hv : w < 128
  · clear ih hb' e2
    have hE : ¬ (9 < n ∨ (n = 9 ∧ 1 < w % 128) ∨ (0 < n ∧ (w : Int) = 0)) := by
      rintro (h | h | h)
      · omega
      · have := h9 h.1; omega
      · have := h0 h.1; omega
    rw [leb_small hv, List.singleton_append]
    simp only [sh, Int.toNat_natCast]
    rw [if_neg hE, if_pos (by omega), Nat.mod_eq_of_lt hv]
    rfl
  · have hn9 : n ≠ 9 := fun h => by have := h9 h; omega
    have hih := ih (w / 128) (by omega) (n + 1) (v0 + w % 128 * 128 ^ n) (by omega) (fun _ => by omega) hb'
    rw [Nat.add_assoc, e2] at hih
    clear ih hb' e2
    have hE : ¬ (9 < n ∨ (n = 9 ∧ 1 < (w % 128 + 128) % 128) ∨ (0 < n ∧ ((w % 128 + 128 : Nat) : Int) = 0)) := by omega
    have e : (w % 128 + 128) % 128 = w % 128 := by omega
    rw [leb_big hv, List.cons_append]
    simp only [sh, Int.toNat_natCast]
    rw [if_neg hE, if_neg (by omega), e, hih, List.length_cons, show n + 1 + (leb (w / 128)).length = n + ((leb (w / 128)).length + 1) by omega]
theorem leb_sh : ∀ (l : List Int) (n v0 v' m : Nat), (∀ x ∈ l, 0 ≤ x ∧ x < 256) → sh l n v0 = ((v' : Int), (m : Int), 0) →
    ∃ w, l = leb w ++ l.drop (m - n) ∧ v' = v0 + w * 128 ^ n ∧ n < m ∧ (0 < n → 0 < w) := by
  intro l
  induction l with
  | nil => intro n v0 v' m _ h; simp [sh] at h
  | cons b l ih =>
    intro n v0 v' m hw h
    obtain ⟨c, rfl, hc2⟩ : ∃ c : Nat, b = (c : Int) ∧ c < 256 := ⟨b.toNat, by have := hw b (by simp); omega, by have := hw b (by simp); omega⟩
    simp only [sh, Int.toNat_natCast] at h
    by_cases hE : 9 < n ∨ (n = 9 ∧ 1 < c % 128) ∨ (0 < n ∧ (c : Int) = 0)
    · rw [if_pos hE] at h; simp at h
    · rw [if_neg hE] at h
      by_cases h8 : (c : Int) < 128
      · rw [if_pos h8] at h
        simp only [Prod.mk.injEq, Int.natCast_inj, and_true] at h
        obtain ⟨h1, h2⟩ := h
        refine ⟨c, ?_, ?_, by omega, fun h => by omega⟩
        · rw [leb_small (by omega), show m - n = 1 by omega]; rfl
        · rw [← h1, Nat.mod_eq_of_lt (by omega)]
      · rw [if_neg h8] at h
        obtain ⟨w, h1, h2, h3, h4⟩ := ih (n + 1) _ v' m (fun x hx => hw x (by simp [hx])) h
        have hw0 := h4 (by omega)
        refine ⟨c % 128 + 128 * w, ?_, ?_, by omega, fun _ => by omega⟩
        · rw [leb_big (by omega), show (c % 128 + 128 * w) % 128 + 128 = c by omega, show (c % 128 + 128 * w) / 128 = w by omega, show m - n = (m - (n + 1)) + 1 by omega, List.drop_succ_cons, List.cons_append, ← h1]
        · rw [h2, Nat.add_mul, Nat.pow_succ, Nat.add_assoc]; congr 2; ac_rfl

/-! what is packed is unpacked, what is unpacked is packed -/
theorem nums_numN (w : Nat) : ∀ (L : List Int), (∀ x ∈ L, 0 ≤ x) → fitAll L w → nums_ w L.length (numN w L) = L := by
  intro L
  induction L with
  | nil => intro _ _; rfl
  | cons x L ih =>
    intro h0 hf
    have hx := hf x (by simp)
    have hx0 := h0 x (by simp)
    simp only [List.length_cons, nums_, numN]
    have e1 : (x.toNat + 2 ^ w * numN w L) % 2 ^ w = x.toNat := by rw [Nat.add_mul_mod_self_left, Nat.mod_eq_of_lt hx]
    have e2 : (x.toNat + 2 ^ w * numN w L) / 2 ^ w = numN w L := by rw [Nat.add_mul_div_left _ _ (Nat.two_pow_pos w), Nat.div_eq_of_lt hx, Nat.zero_add]
    rw [e1, e2, ih (fun y hy => h0 y (by simp [hy])) (fun y hy => hf y (by simp [hy])), Int.toNat_of_nonneg hx0]
theorem numN_nums (w : Nat) : ∀ (n B : Nat), B < 2 ^ (w * n) → numN w (nums_ w n B) = B := by
  intro n
  induction n with
  | zero => intro B h; simp at h; simp [nums_, numN, h]
  | succ n ih =>
    intro B h
    simp only [nums_, numN, Int.toNat_natCast]
    rw [ih (B / 2 ^ w) (by rw [Nat.div_lt_iff_lt_mul (Nat.two_pow_pos w), ← Nat.pow_add]; rw [Nat.mul_add, Nat.mul_one] at h; exact h), Nat.mod_add_div]
theorem nums_fit (w : Nat) : ∀ (n B : Nat), fitAll (nums_ w n B) w := by
  intro n
  induction n with
  | zero => intro B x hx; simp [nums_] at hx
  | succ n ih =>
    intro B x hx
    simp only [nums_, List.mem_cons] at hx
    rcases hx with rfl | hx
    · rw [Int.toNat_natCast]; exact Nat.mod_lt _ (Nat.two_pow_pos w)
    · exact ih _ x hx
theorem nums_u64 (w : Nat) (hw : w ≤ 64) (n B : Nat) : ∀ x ∈ nums_ w n B, 0 ≤ x ∧ x < 18446744073709551616 := by
  intro x hx
  have hf := nums_fit w n B x hx
  have h0 : 0 ≤ x := by
    clear hf
    induction n generalizing B with
    | zero => simp [nums_] at hx
    | succ n ih =>
      simp only [nums_, List.mem_cons] at hx
      rcases hx with rfl | hx
      · exact Int.natCast_nonneg _
      · exact ih _ hx
  refine ⟨h0, ?_⟩
  have h2 : x.toNat < 2 ^ 64 := Nat.lt_of_lt_of_le hf (Nat.pow_le_pow_right (by decide) hw)
  have h3 : x.toNat < 18446744073709551616 := Nat.lt_of_lt_of_eq h2 (by decide)
  clear hf h2
  omega
theorem unpack_pack (L : List Int) (w : Nat) (hw : w ≤ 64) (hn : L.length ≤ 200) (hL : ∀ x ∈ L, 0 ≤ x ∧ x < 18446744073709551616) (hf : fitAll L w) :
    (packed L w).2 = 0 ∧ Bytes (packed L w).1 ∧ ((packed L w).1.length : Int) = ((sizeN L.length w : Nat) : Int) ∧ unpacked (packed L w).1 L.length w = (L, 0) := by
  have oa : okSize (L.length : Int) (w : Int) := ⟨by omega, by omega, by omega, by omega⟩
  have hp : packed L w = (digs (sizeN L.length w) (numN w L), 0) := by unfold packed; rw [if_pos oa, Int.toNat_natCast, if_pos hf]
  rw [hp]
  refine ⟨rfl, digs_bytes _ _, by rw [digs_length], ?_⟩
  have hN := numN_lt w L hf
  have hN2 : numN w L < 256 ^ sizeN L.length w := by
    have : w * L.length ≤ 8 * sizeN L.length w := by unfold sizeN; rw [Nat.mul_comm w]; omega
    rw [show (256 : Nat) = 2 ^ 8 by decide, ← Nat.pow_mul]
    exact Nat.lt_of_lt_of_le hN (Nat.pow_le_pow_right (by decide) this)
  unfold unpacked
  simp only [if_pos oa, Int.toNat_natCast, digs_length, Nat.lt_irrefl, if_false, leN_digs _ _ hN2, if_pos hN]
  rw [nums_numN w L (fun x hx => (hL x hx).1) hf]
theorem pack_unpack (b : List Int) (n w : Int) (hb : Bytes b) (z : List Int) (h : unpacked b n w = (z, 0)) : (z.length : Int) = n ∧ (∀ x ∈ z, 0 ≤ x ∧ x < 18446744073709551616) ∧ packed z w = (b, 0) := by
  unfold unpacked at h
  by_cases ho : okSize n w
  · rw [if_pos ho] at h
    by_cases c1 : b.length < sizeN n.toNat w.toNat
    · rw [if_pos c1] at h; exact absurd (congrArg Prod.snd h) (by simp)
    rw [if_neg c1] at h
    by_cases c2 : sizeN n.toNat w.toNat < b.length
    · rw [if_pos c2] at h; exact absurd (congrArg Prod.snd h) (by simp)
    rw [if_neg c2] at h
    by_cases c3 : leN b < 2 ^ (w.toNat * n.toNat)
    · rw [if_pos c3] at h
      have hz : nums_ w.toNat n.toNat (leN b) = z := congrArg Prod.fst h
      obtain ⟨h1, h2, h3, h4⟩ := id ho
      have hl : z.length = n.toNat := by rw [← hz, nums_length]
      have hln : (z.length : Int) = n := by rw [hl, Int.toNat_of_nonneg h1]
      refine ⟨hln, ?_, ?_⟩
      · rw [← hz]; exact nums_u64 _ (by omega) _ _
      · unfold packed
        rw [hln, if_pos ho, ← hz, if_pos (nums_fit _ _ _), numN_nums _ _ _ c3, nums_length]
        have hs : sizeN n.toNat w.toNat = b.length := Nat.le_antisymm (Nat.le_of_not_lt c1) (Nat.le_of_not_lt c2)
        rw [hs, digs_leN b hb]
    · rw [if_neg c3] at h; exact absurd (congrArg Prod.snd h) (by simp)
  · rw [if_neg ho] at h; exact absurd (congrArg Prod.snd h) (by simp)

theorem leb_bytes : ∀ (w : Nat), ∀ x ∈ leb w, 0 ≤ x ∧ x < 256 := by
  intro w
  induction w using Nat.strongRecOn with
  | _ w ih =>
  intro x hx
  by_cases hv : w < 128
  · rw [leb_small hv] at hx; simp at hx; omega
  · rw [leb_big hv] at hx
    rcases List.mem_cons.1 hx with rfl | hx
    · omega
    · exact ih (w / 128) (by omega) x hx

/-! a reader's ways: one byte, nothing, all that is left; what is unpacked -/
theorem unpacked_ok {b : List Int} {n w : Int} (h : (unpacked b n w).2 = 0) : ((unpacked b n w).1.length : Int) = n ∧ (∀ x ∈ (unpacked b n w).1, 0 ≤ x ∧ x < 18446744073709551616) ∧ 0 ≤ w ∧ w ≤ 64 := by
  unfold unpacked at h ⊢
  by_cases ho : okSize n w
  · rw [if_pos ho] at h ⊢
    split at h
    · simp at h
    · rename_i h1
      rw [if_neg h1]
      split at h
      · simp at h
      · rename_i h2
        rw [if_neg h2]
        split at h
        · rename_i h3
          rw [if_pos h3]
          obtain ⟨a1, a2, a3, a4⟩ := ho
          exact ⟨by rw [nums_length]; omega, nums_u64 _ (by omega) _ _, a3, a4⟩
        · simp at h
  · rw [if_neg ho] at h; simp at h
theorem nfix1_ok {b : List Int} (hw : ∀ x ∈ b, 0 ≤ x ∧ x < 256) (hl : b.length ≤ 140737488355328) {a : Nat} (ha : a < b.length) (on : Int) : Ev (fun k => num_Reader_Fix.f k b a 0 on 1) (b[a], ((a + 1 : Nat) : Int), 0, on) := by
  have hc := hw _ (List.getElem_mem ha)
  have ht : num_Reader_Take.f b (a : Int) 0 on 1 = some ([((b[a].toNat : Nat) : Int)], (a : Int) + 1, 0, on) := by
    unfold num_Reader_Take.f
    rw [if_pos ⟨by omega, by omega, by omega⟩, if_neg (by simp), if_neg (by omega), if_neg (by omega), Int.toNat_natCast, dropc b a ha, show ((b[a].toNat : Nat) : Int) = b[a] by omega]
    rfl
  refine Ev.congr (f := fun k => num_Reader_Fix.j0 k 1 false b (a : Int) 0 on) (fun k => by unfold num_Reader_Fix.f; rw [if_neg (by omega), decide_eq_false (by omega)]) ⟨1, fun k hk => ?_⟩
  obtain ⟨k, rfl⟩ : ∃ m, k = m + 1 := ⟨k - 1, by omega⟩
  refine (fixg_1 k _ (by omega) ht).trans ?_
  rw [show (((0) * 256 + b[a].toNat : Nat) : Int) = b[a] by omega, show ((a : Int) + 1) = ((a + 1 : Nat) : Int) by omega]
theorem nfix1_none {b : List Int} {x e on A E O : Int} (ht : num_Reader_Take.f b x e on 1 = some ([], A, E, O)) : Ev (fun k => num_Reader_Fix.f k b x e on 1) (0, A, E, O) := by
  refine Ev.congr (f := fun k => num_Reader_Fix.j0 k 1 false b x e on) (fun k => by unfold num_Reader_Fix.f; rw [if_neg (by omega), decide_eq_false (by omega)]) ⟨1, fun k hk => ?_⟩
  obtain ⟨k, rfl⟩ : ∃ m, k = m + 1 := ⟨k - 1, by omega⟩
  simp only [num_Reader_Fix.j0]
  rw [if_neg (by decide), ht, Option.bind_some]
  simp
theorem ntake_none {b : List Int} (hl : b.length ≤ 140737488355328) {a : Nat} (ha : a ≤ b.length) {x y : Int} (hx : x ≠ 0) : num_Reader_Take.f b (a : Int) x y 1 = some ([], (a : Int), x, y) := by
  unfold num_Reader_Take.f; rw [if_pos ⟨by omega, by omega, by omega⟩, if_pos hx]
theorem ntake_end {b : List Int} (hl : b.length ≤ 140737488355328) (y : Int) : num_Reader_Take.f b (b.length : Int) 0 y 1 = some ([], (b.length : Int), 2, (b.length : Int)) := by
  unfold num_Reader_Take.f; rw [if_pos ⟨by omega, by omega, by omega⟩, if_neg (by simp), if_neg (by omega), if_pos (by omega)]
theorem ntake_all {b : List Int} (hl : b.length ≤ 140737488355328) {a : Nat} (ha : a ≤ b.length) (on : Int) : num_Reader_Take.f b (a : Int) 0 on ((b.length - a : Nat) : Int) = some (b.drop a, (b.length : Int), 0, on) := by
  unfold num_Reader_Take.f
  rw [if_pos ⟨by omega, by omega, by omega⟩, if_neg (by simp), if_neg (by omega), if_neg (by omega), Int.toNat_natCast, Int.toNat_natCast, List.take_of_length_le (by rw [List.length_drop]; exact Nat.le_refl _), show (a : Int) + ((b.length - a : Nat) : Int) = (b.length : Int) by omega]
theorem nleft {b : List Int} (hl : b.length ≤ 140737488355328) {a : Nat} (ha : a ≤ b.length) : wrap64 ((b.length : Int) - a) = ((b.length - a : Nat) : Int) := by rw [w64 (by omega) (by omega)]; omega

/-! texts.list, texts.Get -/
/-- A blob at a place: its bytes, the place behind, an error. -/
def blb (b : List Int) (a : Nat) : List Int × Nat × Int :=
  if (sh (b.drop a) 0 0).2.2 = 0 then
    (if 65536 < (sh (b.drop a) 0 0).1.toNat then ([], a, 12)
    else if b.length - a - (sh (b.drop a) 0 0).2.1.toNat < (sh (b.drop a) 0 0).1.toNat then ([], a, 2)
    else ((b.drop (a + (sh (b.drop a) 0 0).2.1.toNat)).take (sh (b.drop a) 0 0).1.toNat, a + (sh (b.drop a) 0 0).2.1.toNat + (sh (b.drop a) 0 0).1.toNat, 0))
  else ([], a, (sh (b.drop a) 0 0).2.2)
def rises (out : List ByteArray) (s : ByteArray) : Prop := ∀ y, out.getLast? = some y → tb y < tb s
instance (out : List ByteArray) (s : ByteArray) : Decidable (rises out s) := by
  unfold rises
  cases h : out.getLast? with
  | none => exact isTrue (fun y e => by cases e)
  | some z => exact if c : tb z < tb s then isTrue (fun y e => by cases e; exact c) else isFalse (fun h => c (h z rfl))
def tst (b : List Int) : Nat → Nat → List ByteArray → List ByteArray × Nat × Int
  | 0, a, out => (out, a, 0)
  | c + 1, a, out =>
    if (blb b a).2.2 = 0 then (if rises out (strOfNums (blb b a).1) then tst b c (blb b a).2.1 (out ++ [strOfNums (blb b a).1]) else ([], 0, 4)) else ([], 0, (blb b a).2.2)
def tsv (b : List Int) (n : Int) : List ByteArray × Nat × Int :=
  if (sh b 0 0).2.2 = 0 then (if (sh b 0 0).1 > n then ([], 0, 5) else tst b (sh b 0 0).1.toNat (sh b 0 0).2.1.toNat []) else ([], 0, (sh b 0 0).2.2)
def tpicked (L : List ByteArray) (d : List Int) : List ByteArray × Int :=
  if ∃ x ∈ d, x ≥ (L.length : Int) then ([], 5) else if ∀ j, j < L.length → (j : Int) ∈ d then (d.map (rdOf ByteArray.empty L), 0) else ([], 4)
def textv (b : List Int) (n : Int) : List ByteArray × Int :=
  if n < 0 ∨ n > 65536 then ([], 1)
  else if (tsv b n).2.2 = 0 then
    (if h : (tsv b n).2.1 < b.length then
      (if b[(tsv b n).2.1] = (wd (tsv b n).1.length : Int) then
        (if (unpacked (b.drop ((tsv b n).2.1 + 1)) n b[(tsv b n).2.1]).2 = 0 then tpicked (tsv b n).1 (unpacked (b.drop ((tsv b n).2.1 + 1)) n b[(tsv b n).2.1]).1
        else ([], (unpacked (b.drop ((tsv b n).2.1 + 1)) n b[(tsv b n).2.1]).2))
      else ([], 4))
    else ([], 2))
  else ([], (tsv b n).2.2)
theorem blb_le {b : List Int} {a : Nat} (hw : ∀ x ∈ b, 0 ≤ x ∧ x < 256) (ha : a ≤ b.length) : (blb b a).2.1 ≤ b.length := by
  unfold blb
  rcases sh_cases (b.drop a) 0 0 (drop_bytes hw a) (by omega) (by decide) with h | h | ⟨v, m, h, g1, g2, hv⟩
  · rw [h]; exact ha
  · rw [h]; exact ha
  · rw [List.length_drop] at g2
    rw [h]
    simp only [if_true, Int.toNat_natCast]
    by_cases c : 65536 < v
    · rw [if_pos c]; exact ha
    · rw [if_neg c]
      by_cases c2 : b.length - a - m < v
      · rw [if_pos c2]; exact ha
      · rw [if_neg c2]; show a + m + v ≤ b.length; omega
theorem nblob {b : List Int} (hw : ∀ x ∈ b, 0 ≤ x ∧ x < 256) (hl : b.length ≤ 1000000) {a : Nat} (ha : a ≤ b.length) (on : Int) :
    ∃ O : Int, Ev (fun k => num_Reader_Blob.f k b a 0 on 65536) ((blb b a).1, (((blb b a).2.1 : Nat) : Int), (blb b a).2.2, O) := by
  have hs := short_f (b.drop a) (drop_bytes hw a) (by rw [List.length_drop]; omega)
  have c0 : 0 ≤ (a : Int) ∧ (a : Int) ≤ (b.length : Int) ∧ (b.length : Int) ≤ 140737488355328 := ⟨by omega, by omega, by omega⟩
  unfold num_Reader_Blob.f blb
  simp only [if_neg (show ¬ ((0 : Int) ≠ 0) by simp), if_pos c0, Int.toNat_natCast]
  rcases sh_cases (b.drop a) 0 0 (drop_bytes hw a) (by omega) (by decide) with h | h | ⟨v, m, h, g1, g2, hv⟩
  · rw [h] at hs ⊢
    refine ⟨a, Ev.bind hs ?_⟩
    simp only [if_pos (show ((2 : Int) ≠ 0) by decide), if_neg (show ¬ ((2 : Int) = 0) by decide)]
    exact Ev.now _
  · rw [h] at hs ⊢
    refine ⟨a, Ev.bind hs ?_⟩
    simp only [if_pos (show ((4 : Int) ≠ 0) by decide), if_neg (show ¬ ((4 : Int) = 0) by decide)]
    exact Ev.now _
  · rw [List.length_drop] at g2
    rw [h] at hs ⊢
    have e1 : 0 ≤ (m : Int) ∧ (a : Int) + (m : Int) ≤ (b.length : Int) ∧ 0 ≤ (v : Int) ∧ (v : Int) < 18446744073709551616 := ⟨by omega, by omega, by omega, by omega⟩
    have e2 : IntKind.u64.wrap 65536 = 65536 := u64w_id (by omega) (by omega)
    simp only [if_true, Int.toNat_natCast]
    by_cases c : 65536 < v
    · rw [if_pos c]
      refine ⟨a, Ev.bind hs ?_⟩
      simp only [if_neg (show ¬ ((0 : Int) ≠ 0) by simp), if_pos e1, e2, if_pos (show ((65536 : Int) < 0 ∨ 65536 < (v : Int)) from .inr (by omega))]
      exact Ev.now _
    · rw [if_neg c]
      by_cases c2 : b.length - a - m < v
      · rw [if_pos c2]
        refine ⟨a, Ev.bind hs ?_⟩
        simp only [if_neg (show ¬ ((0 : Int) ≠ 0) by simp), if_pos e1, e2, if_neg (show ¬ ((65536 : Int) < 0 ∨ 65536 < (v : Int)) from by omega), if_pos (show (b.length : Int) - a - m < (v : Int) by omega)]
        exact Ev.now _
      · rw [if_neg c2]
        refine ⟨on, Ev.bind hs ?_⟩
        have ht : num_Reader_Take.f b ((a : Int) + (m : Int)) 0 on (v : Int) = some ((b.drop (a + m)).take v, ((a + m + v : Nat) : Int), 0, on) := by
          unfold num_Reader_Take.f
          rw [if_pos ⟨by omega, by omega, by omega⟩, if_neg (by simp), if_neg (by omega), if_neg (by omega), Int.toNat_natCast, show ((a : Int) + (m : Int)).toNat = a + m by omega, show ((a : Int) + (m : Int) + (v : Int)) = ((a + m + v : Nat) : Int) by omega]
        simp only [if_neg (show ¬ ((0 : Int) ≠ 0) by simp), if_pos e1, e2, if_neg (show ¬ ((65536 : Int) < 0 ∨ 65536 < (v : Int)) from by omega), if_neg (show ¬ (b.length : Int) - a - m < (v : Int) by omega), ht]
        exact Ev.now _
theorem tlist_err (b : List Int) (count : Int) (out : List ByteArray) (i a e on : Int) (he : e ≠ 0) : Ev (fun k => texts_list.l0 k out count i b a e on) (out, a, e, on) := by
  by_cases h : i < count
  · refine Ev.step (f := fun _ => some (out, a, e, on)) (fun k => ?_) (Ev.now _)
    simp only [texts_list.l0, num_Reader_Err.f, Option.bind_some]
    rw [if_pos h, if_neg he]
  · refine Ev.step (f := fun _ => some (out, a, e, on)) (fun k => ?_) (Ev.now _)
    simp only [texts_list.l0]
    rw [if_neg h]
theorem u64p {i : Nat} (h : i ≤ 65536) : IntKind.u64.wrap ((i : Int) + 1) = ((i + 1 : Nat) : Int) := by rw [u64w_id (by omega) (by omega)]; omega
theorem rises_cons {out : List ByteArray} (h : ¬ out.length = 0) (s : ByteArray) : ∃ hl : out.length - 1 < out.length, rises out s ↔ tb (out[out.length - 1]) < tb s := by
  have hl : out.length - 1 < out.length := by omega
  refine ⟨hl, ?_⟩
  have e : out.getLast? = some out[out.length - 1] := by rw [List.getLast?_eq_getElem?, List.getElem?_eq_getElem hl]
  unfold rises
  rw [e]
  exact ⟨fun h => h _ rfl, fun h y hy => by cases hy; exact h⟩
theorem rises_nil (s : ByteArray) : rises [] s := fun y h => by cases h
theorem tlist_l0 {b : List Int} (hw : ∀ x ∈ b, 0 ≤ x ∧ x < 256) (hl : b.length ≤ 1000000) (N : Nat) (hN : N ≤ 65536) : ∀ (c a : Nat) (out : List ByteArray) (on : Int), N = out.length + c → a ≤ b.length →
    ∃ (L : List ByteArray) (A : Nat) (E O : Int), Ev (fun k => texts_list.l0 k out N out.length b a 0 on) (L, (A : Int), E, O) ∧ E = (tst b c a out).2.2 ∧ (E = 0 → L = (tst b c a out).1 ∧ A = (tst b c a out).2.1) ∧ A ≤ b.length ∧ L.length ≤ N := by
  intro c
  induction c with
  | zero =>
    intro a out on hc ha
    refine ⟨out, a, 0, on, Ev.step (f := fun _ => some (out, (a : Int), 0, on)) (fun k => ?_) (Ev.now _), rfl, fun _ => ⟨rfl, rfl⟩, ha, by omega⟩
    simp only [texts_list.l0]
    rw [if_neg (by omega)]
  | succ c ih =>
    intro a out on hc ha
    have hlt : (out.length : Int) < (N : Int) := by omega
    have hguard : out.length < 8796093022208 := by omega
    have e1 : IntKind.u64.wrap ((out.length : Int) + 1) = ((out.length + 1 : Nat) : Int) := u64p (by omega)
    have hsn : ∀ x : ByteArray, ((out.length + 1 : Nat) : Int) = ((out ++ [x]).length : Int) := fun x => by simp
    obtain ⟨O, hO⟩ := nblob hw hl ha on
    have hle := blb_le hw ha
    rw [tst]
    generalize blb b a = B at hO hle ⊢
    obtain ⟨p, A, e⟩ := B
    simp only at hO hle ⊢
    have go : ∀ res, Ev (fun k => if e = 0 then (if (out.length : Int) > 0 then (if 0 ≤ (wrap64 ((out.length : Int) - 1)) then (if (wrap64 ((out.length : Int) - 1)) < (out.length : Int) then (if ((Op.bytesLess ((rdOf ByteArray.empty out (wrap64 ((out.length : Int) - 1))).toList) ((strOfNums p).toList)) = true) then (if out.length < 8796093022208 then (texts_list.l0 k (out ++ [strOfNums p]) N ((out.length + 1 : Nat) : Int) b A e O) else (none)) else ((num_Reader_Fail.f b A e O 4).bind fun bt256 => (if out.length < 8796093022208 then (texts_list.l0 k (out ++ [strOfNums p]) N ((out.length + 1 : Nat) : Int) b bt256.1 bt256.2.1 bt256.2.2) else (none)))) else (none)) else (none)) else (if out.length < 8796093022208 then (texts_list.l0 k (out ++ [strOfNums p]) N ((out.length + 1 : Nat) : Int) b A e O) else (none))) else (if out.length < 8796093022208 then (texts_list.l0 k (out ++ [strOfNums p]) N ((out.length + 1 : Nat) : Int) b A e O) else (none))) res →
        Ev (fun k => texts_list.l0 k out N out.length b a 0 on) res := by
      intro res h
      refine Ev.step (f := fun k => (num_Reader_Blob.f k b a 0 on 65536).bind fun bt241 => _) (fun k => by
        simp only [texts_list.l0, num_Reader_Err.f, Option.bind_some]
        rw [if_pos hlt, if_pos trivial, e1]) ?_
      exact Ev.bind hO h
    by_cases he : e = 0
    · subst he
      simp only [if_true] at go ⊢
      by_cases h0 : out.length = 0
      · have hz : ¬ (out.length : Int) > 0 := by omega
        have hnil : out = [] := List.eq_nil_of_length_eq_zero h0
        have hr : rises out (strOfNums p) := by rw [hnil]; exact rises_nil _
        rw [if_pos hr]
        obtain ⟨L, A2, E, O2, q1, q2, q3, q4, q5⟩ := ih A (out ++ [strOfNums p]) O (by simp; omega) hle
        refine ⟨L, A2, E, O2, go _ ?_, q2, q3, q4, q5⟩
        simp only [if_neg hz, if_pos hguard, hsn (strOfNums p)]
        exact q1
      · have hz : (out.length : Int) > 0 := by omega
        obtain ⟨hl1, hr⟩ := rises_cons h0 (strOfNums p)
        have em : wrap64 ((out.length : Int) - 1) = ((out.length - 1 : Nat) : Int) := by rw [w64 (by omega) (by omega)]; omega
        by_cases c : rises out (strOfNums p)
        · rw [if_pos c]
          obtain ⟨L, A2, E, O2, q1, q2, q3, q4, q5⟩ := ih A (out ++ [strOfNums p]) O (by simp; omega) hle
          refine ⟨L, A2, E, O2, go _ ?_, q2, q3, q4, q5⟩
          simp only [if_pos hz, em, if_pos (Int.natCast_nonneg (out.length - 1)), if_pos (Int.ofNat_lt.2 hl1), rdo_get hl1, less_eq, decide_eq_true (hr.1 c), if_true, if_pos hguard, hsn (strOfNums p)]
          exact q1
        · rw [if_neg c]
          refine ⟨out ++ [strOfNums p], A, 4, A, go _ ?_, rfl, fun h => (by cases h), hle, by simp; omega⟩
          simp only [if_pos hz, em, if_pos (Int.natCast_nonneg (out.length - 1)), if_pos (Int.ofNat_lt.2 hl1), rdo_get hl1, less_eq, decide_eq_false (fun h => c (hr.2 h)), Bool.false_eq_true, if_false, num_Reader_Fail.f, num_Reader_Fail.next, Option.bind_some, if_pos hguard]
          rw [if_pos ⟨trivial, by decide⟩]
          exact tlist_err b N _ _ _ 4 _ (by decide)
    · simp only [if_neg he] at go ⊢
      refine ⟨out ++ [strOfNums p], A, e, O, go _ ?_, rfl, fun h => absurd h he, hle, by simp; omega⟩
      simp only [if_pos hguard]
      exact tlist_err b N _ _ _ e _ he
theorem tlist_f {b : List Int} (hw : ∀ x ∈ b, 0 ≤ x ∧ x < 256) (hl3 : b.length ≤ 1000000) (n : Int) (h0 : 0 ≤ n) (h1 : n ≤ 65536) :
    ∃ (L : List ByteArray) (A : Nat) (E O : Int), Ev (fun k => texts_list.f k b 0 0 0 n) (L, (A : Int), E, O) ∧ E = (tsv b n).2.2 ∧ (E = 0 → L = (tsv b n).1 ∧ A = (tsv b n).2.1) ∧ A ≤ b.length ∧ L.length ≤ 65536 := by
  have hl : b.length < 4611686018427387904 := by omega
  have en : IntKind.u64.wrap n = n := u64w_id h0 (by omega)
  have hb0 := drop_bytes hw 0
  unfold tsv
  rcases sh_cases (b.drop 0) 0 0 hb0 (by omega) (by decide) with h | h | ⟨v, m, h, g1, g2, hv⟩
  · have hv := nvar_err (on := 0) hw hl (Nat.zero_le _) (.inl rfl) h
    rw [List.drop_zero] at h
    refine ⟨[], 0, 2, 0, ?_, by rw [h]; rfl, fun hh => (by cases hh), Nat.zero_le _, by simp⟩
    unfold texts_list.f
    refine Ev.bind hv ?_
    have c : ¬ (0 : Int) > n := by omega
    simp only [en, if_neg c]
    exact tlist_err b 0 [] 0 0 2 0 (by decide)
  · have hv := nvar_err (on := 0) hw hl (Nat.zero_le _) (.inr rfl) h
    rw [List.drop_zero] at h
    refine ⟨[], 0, 4, 0, ?_, by rw [h]; rfl, fun hh => (by cases hh), Nat.zero_le _, by simp⟩
    unfold texts_list.f
    refine Ev.bind hv ?_
    have c : ¬ (0 : Int) > n := by omega
    simp only [en, if_neg c]
    exact tlist_err b 0 [] 0 0 4 0 (by decide)
  · have ok1 := nvar_ok (on := 0) hw hl (Nat.zero_le _) h (by rw [List.length_drop] at g2; omega)
    rw [List.drop_zero] at h
    rw [List.length_drop, Nat.sub_zero, Nat.zero_add] at g2
    rw [Nat.zero_add] at ok1
    rw [h]
    simp only [if_true, Int.toNat_natCast]
    by_cases c : (v : Int) > n
    · rw [if_pos c]
      refine ⟨[], m, 5, m, ?_, rfl, fun hh => (by cases hh), g2, by simp⟩
      unfold texts_list.f
      refine Ev.bind ok1 ?_
      simp only [en, if_pos c, num_Reader_Fail.f, num_Reader_Fail.next, Option.bind_some]
      rw [if_pos ⟨trivial, by decide⟩]
      exact tlist_err b v [] 0 m 5 m (by decide)
    · obtain ⟨L, A, E, O, q1, q2, q3, q4, q5⟩ := tlist_l0 hw hl3 v (by omega) v m [] 0 (by simp) g2
      rw [if_neg c]
      refine ⟨L, A, E, O, ?_, q2, q3, q4, by omega⟩
      unfold texts_list.f
      refine Ev.bind ok1 ?_
      simp only [en, if_neg c]
      exact q1

/-- which places are used -/
def usedOf (n : Nat) (d : List Int) : List Bool := (List.range n).map (fun j : Nat => decide ((j : Int) ∈ d))
theorem usedOf_length (n : Nat) (d : List Int) : (usedOf n d).length = n := by simp [usedOf]
theorem usedOf_set (n : Nat) (d : List Int) (j : Nat) : (usedOf n d).set j true = usedOf n (d ++ [(j : Int)]) := by
  apply List.ext_getElem
  · simp [usedOf]
  · intro i h1 h2
    have hi : i < n := by simpa [usedOf] using h1
    rw [List.getElem_set]
    by_cases e : j = i
    · subst e; simp [usedOf]
    · rw [if_neg e]
      have : ¬ (i : Int) = (j : Int) := by omega
      simp [usedOf, this]
theorem usedOf_false (n : Nat) (d : List Int) : false ∈ usedOf n d ↔ ¬ ∀ j, j < n → (j : Int) ∈ d := by
  unfold usedOf
  simp only [List.mem_map, List.mem_range, decide_eq_false_iff_not]
  constructor
  · rintro ⟨j, h1, h2⟩ h; exact h2 (h j h1)
  · intro h
    refine Classical.byContradiction fun hc => h (fun j hj => Classical.byContradiction fun h2 => hc ⟨j, hj, h2⟩)
theorem index_l0 (u : List Bool) (hn : u.length ≤ 1000000) : ∀ (d i : Nat), u.length = i + d → ∃ r, Ev (fun k => slices_Index_bool_bool.l0 k u false u.length i) r ∧ (r ≥ 0 ↔ false ∈ u.drop i) := by
  intro d
  induction d with
  | zero =>
    intro i hd
    refine ⟨-1, Ev.step (f := fun _ => some (-1)) (fun k => by simp only [slices_Index_bool_bool.l0]; rw [if_neg (by omega)]) (Ev.now _), ?_⟩
    rw [List.drop_of_length_le (by omega)]; simp
  | succ d ih =>
    intro i hd
    have hi : i < u.length := by omega
    have hrd : rdOf false u (i : Int) = u[i] := by simp [rdOf, hi]
    rw [dropc u i hi]
    by_cases hu : u[i] = false
    · refine ⟨i, Ev.step (f := fun _ => some (i : Int)) (fun k => ?_) (Ev.now _), by rw [hu]; simp⟩
      simp only [slices_Index_bool_bool.l0]
      rw [if_pos (Int.ofNat_lt.2 hi), if_pos (Int.natCast_nonneg _), if_pos (Int.ofNat_lt.2 hi), hrd, hu, if_pos (by decide)]
    · obtain ⟨r, r1, r2⟩ := ih (i + 1) (by omega)
      refine ⟨r, Ev.step (fun k => ?_) r1, by
        rw [r2, List.mem_cons]
        exact ⟨.inr, fun h => h.elim (fun e => absurd e.symm hu) id⟩⟩
      simp only [slices_Index_bool_bool.l0]
      rw [if_pos (Int.ofNat_lt.2 hi), if_pos (Int.natCast_nonneg _), if_pos (Int.ofNat_lt.2 hi), hrd, (by simpa using hu : u[i] = true), if_neg (by decide), w64 (by omega) (by omega)]
      rfl
theorem contains_f (u : List Bool) (hn : u.length ≤ 1000000) : Ev (fun k => slices_Contains_bool_bool.f k u false) (decide (false ∈ u)) := by
  obtain ⟨r, r1, r2⟩ := index_l0 u hn u.length 0 (by omega)
  unfold slices_Contains_bool_bool.f slices_Index_bool_bool.f
  refine Ev.bind r1 ?_
  rw [List.drop_zero] at r2
  rw [show decide (r ≥ 0) = decide (false ∈ u) from decide_eq_decide.2 r2]
  exact Ev.now _
theorem tget_l0 (L : List ByteArray) (d : List Int) (hL : L.length ≤ 65536) (hn : d.length ≤ 65536) (hd0 : ∀ x ∈ d, 0 ≤ x) : ∀ (c i : Nat), d.length = i + c → (∀ x ∈ d.take i, x < (L.length : Int)) →
    Ev (fun k => texts_Get.l0 k L (usedOf L.length (d.take i)) ((d.take i).map (rdOf ByteArray.empty L)) d d.length i) (tpicked L d) := by
  have eL : IntKind.u64.wrap (L.length : Int) = (L.length : Int) := u64w_id (by omega) (by omega)
  intro c
  induction c with
  | zero =>
    intro i hi hg
    rw [List.take_of_length_le (by omega)] at hg ⊢
    refine Ev.step (f := fun k => _) (fun k => by simp only [texts_Get.l0]; rw [if_neg (by omega)]) ?_
    refine Ev.bind (contains_f _ (by rw [usedOf_length]; omega)) ?_
    have hp : tpicked L d = if ∀ j, j < L.length → (j : Int) ∈ d then (d.map (rdOf ByteArray.empty L), 0) else ([], 4) := by
      unfold tpicked
      rw [if_neg (by rintro ⟨x, hx, h⟩; have := hg x hx; omega)]
    rw [hp]
    by_cases hu : ∀ j, j < L.length → (j : Int) ∈ d
    · rw [if_pos hu, decide_eq_false (fun h => (usedOf_false _ _).1 h hu)]
      simp only [Bool.false_eq_true, if_false]
      exact Ev.now _
    · rw [if_neg hu, decide_eq_true ((usedOf_false _ _).2 hu)]
      simp only [if_true]
      exact Ev.now _
  | succ c ih =>
    intro i hi hg
    have hlt : i < d.length := by omega
    have hx0 := hd0 _ (List.getElem_mem hlt)
    have e1 : wrap64 ((i : Int) + 1) = ((i + 1 : Nat) : Int) := by rw [w64 (by omega) (by omega)]; rfl
    by_cases hbig : d[i] ≥ (L.length : Int)
    · unfold tpicked
      rw [if_pos ⟨d[i], List.getElem_mem hlt, hbig⟩]
      refine Ev.step (f := fun _ => some ([], 5)) (fun k => ?_) (Ev.now _)
      simp only [texts_Get.l0]
      rw [if_pos (Int.ofNat_lt.2 hlt), if_pos (Int.natCast_nonneg _), if_pos (Int.ofNat_lt.2 hlt), rd_get hlt, eL, if_pos hbig]
    · have hm : d.take (i + 1) = d.take i ++ [d[i]] := List.take_succ_eq_append_getElem hlt
      have hnext := ih (i + 1) (by omega) (by
        intro x hx
        rw [hm] at hx
        rcases List.mem_append.1 hx with h | h
        · exact hg x h
        · simp at h; omega)
      obtain ⟨q, hq⟩ := Int.eq_ofNat_of_zero_le hx0
      have hset := usedOf_set L.length (d.take i) q
      have hql : (q : Int) < ((usedOf L.length (d.take i)).length : Int) := by rw [usedOf_length]; omega
      have hq2 : ¬ (q : Int) ≥ (L.length : Int) := by omega
      have hq3 : (q : Int) < (L.length : Int) := by omega
      have hlen : ((d.take i).map (rdOf ByteArray.empty L)).length < 8796093022208 := by rw [List.length_map, List.length_take]; omega
      rw [hm, List.map_append, List.map_cons, List.map_nil] at hnext
      rw [hq] at hnext
      rw [← hset] at hnext
      refine Ev.step (fun k => ?_) hnext
      simp only [texts_Get.l0]
      rw [if_pos (Int.ofNat_lt.2 hlt), if_pos (Int.natCast_nonneg _), if_pos (Int.ofNat_lt.2 hlt), rd_get hlt, eL, hq, if_neg hq2, if_pos (Int.natCast_nonneg _), if_pos hql, if_pos hq3, if_pos hlen, e1]
      rfl
theorem tget_j1 {b : List Int} (hl : b.length ≤ 140737488355328) (hw : ∀ x ∈ b, 0 ≤ x ∧ x < 256) (L : List ByteArray) (hL : L.length ≤ 65536) (n w : Int) (h0 : 0 ≤ n) (h1 : n ≤ 65536) {a : Nat} (ha : a ≤ b.length) (on : Int) :
    Ev (fun k => texts_Get.j1 k n L w b a 0 on) (if (unpacked (b.drop a) n w).2 = 0 then tpicked L (unpacked (b.drop a) n w).1 else ([], (unpacked (b.drop a) n w).2)) := by
  refine Ev.step (f := fun k => (bits_Unpack.f k (b.drop a) n w).bind fun bt300 => if bt300.2 = 0 then (if 0 ≤ (L.length : Int) then (if ((L.length : Int)).toNat ≤ 281474976710656 then texts_Get.l0 k L (List.replicate ((L.length : Int)).toNat false) [] bt300.1 (bt300.1.length : Int) 0 else none) else none) else some ([], bt300.2)) (fun k => by
    simp only [texts_Get.j1, num_Reader_Err.f, num_Reader_Left.f, Option.bind_some, if_true, nleft hl ha, ntake_all hl ha]) ?_
  refine Ev.bind (unpack_f (b.drop a) (drop_bytes hw a) n w) ?_
  by_cases hu : (unpacked (b.drop a) n w).2 = 0
  · obtain ⟨u1, u2, _, _⟩ := unpacked_ok hu
    have c1 : L.length ≤ 281474976710656 := by omega
    simp only [if_pos hu, if_pos (Int.natCast_nonneg L.length), Int.toNat_natCast, if_pos c1]
    have := tget_l0 L (unpacked (b.drop a) n w).1 hL (by omega) (fun x hx => (u2 x hx).1) _ 0 (Nat.zero_add _).symm (fun x hx => by rw [List.take_zero] at hx; cases hx)
    rw [List.take_zero, show usedOf L.length [] = List.replicate L.length false from by simp [usedOf, List.map_const']] at this
    exact this
  · simp only [if_neg hu]
    exact Ev.now _
theorem tget_j1_err (b : List Int) (L : List ByteArray) (n w a e on : Int) (he : e ≠ 0) : Ev (fun k => texts_Get.j1 k n L w b a e on) ([], e) :=
  Ev.step (f := fun _ => some ([], e)) (fun k => by simp only [texts_Get.j1, num_Reader_Err.f, Option.bind_some]; rw [if_neg he]) (Ev.now _)
theorem tst_len (b : List Int) : ∀ (c a : Nat) (out : List ByteArray), (tst b c a out).2.2 = 0 → (tst b c a out).1.length = out.length + c := by
  intro c
  induction c with
  | zero => intro a out _; rfl
  | succ c ih =>
    intro a out h
    rw [tst] at h ⊢
    by_cases c0 : (blb b a).2.2 = 0
    · rw [if_pos c0] at h ⊢
      by_cases c1 : rises out (strOfNums (blb b a).1)
      · rw [if_pos c1] at h ⊢
        rw [ih _ _ h]; simp; omega
      · rw [if_neg c1] at h; cases h
    · rw [if_neg c0] at h; exact absurd h c0
theorem tsv_len {b : List Int} (hw : ∀ x ∈ b, 0 ≤ x ∧ x < 256) {n : Int} (h : (tsv b n).2.2 = 0) : ((tsv b n).1.length : Int) ≤ n := by
  unfold tsv at h ⊢
  rcases sh_cases b 0 0 hw (by omega) (by decide) with hs | hs | ⟨v, m, hs, g1, g2, hv⟩
  · rw [hs] at h; simp at h
  · rw [hs] at h; simp at h
  · rw [hs] at h ⊢
    simp only [if_true, Int.toNat_natCast] at h ⊢
    by_cases c : (v : Int) > n
    · rw [if_pos c] at h; simp at h
    · rw [if_neg c] at h ⊢
      rw [tst_len _ _ _ _ h]; simp; omega
theorem textget_f {b : List Int} (hw : ∀ x ∈ b, 0 ≤ x ∧ x < 256) (hl3 : b.length ≤ 1000000) (n : Int) : Ev (fun k => texts_Get.f k b n) (textv b n) := by
  have hl2 : b.length < 4611686018427387904 := by omega
  have hl4 : b.length ≤ 140737488355328 := by omega
  have hnr : num_NewReader.f b = some (b, 0, 0, 0) := by unfold num_NewReader.f; rw [if_pos (by omega)]
  unfold textv
  by_cases h0 : n < 0
  · rw [if_pos (.inl h0)]
    unfold texts_Get.f; simp only [if_pos h0]
    exact Ev.step (f := fun _ => some ([], 1)) (fun k => by simp only [texts_Get.j0]; rw [if_pos trivial]) (Ev.now _)
  by_cases h1 : n > 65536
  · rw [if_pos (.inr h1)]
    unfold texts_Get.f; simp only [if_neg h0, decide_eq_true h1]
    exact Ev.step (f := fun _ => some ([], 1)) (fun k => by simp only [texts_Get.j0]; rw [if_pos trivial]) (Ev.now _)
  rw [if_neg (by rintro (h | h); exact h0 h; exact h1 h)]
  unfold texts_Get.f
  simp only [if_neg h0, decide_eq_false h1]
  obtain ⟨L, A, E, O, q1, q2, q3, q4, q5⟩ := tlist_f hw hl3 n (by omega) (by omega)
  have hlen := fun h => tsv_len hw (n := n) h
  refine Ev.step (f := fun k => (texts_list.f k b 0 0 0 n).bind fun bt273 => (num_Reader_Fix.f k b bt273.2.1 bt273.2.2.1 bt273.2.2.2 1).bind fun bt279 => (texts_width.f (bt273.1.length : Int)).bind fun t281 => if wrap64 bt279.1 = t281 then texts_Get.j1 k n bt273.1 (wrap64 bt279.1) b bt279.2.1 bt279.2.2.1 bt279.2.2.2 else (num_Reader_Fail.f b bt279.2.1 bt279.2.2.1 bt279.2.2.2 4).bind fun bt282 => texts_Get.j1 k n bt273.1 (wrap64 bt279.1) b bt282.1 bt282.2.1 bt282.2.2) (fun k => by
    simp only [texts_Get.j0]
    rw [if_neg (by decide), hnr]
    rfl) ?_
  refine Ev.bind q1 ?_
  generalize tsv b n = R at *
  obtain ⟨R1, R2, R3⟩ := R
  simp only at q2 q3 hlen ⊢
  subst q2
  by_cases hE : E = 0
  · obtain ⟨rfl, rfl⟩ := q3 hE
    subst hE
    have hLn := hlen rfl
    rw [if_pos rfl]
    by_cases hm : A < b.length
    · have hc := hw _ (List.getElem_mem hm)
      have hwc : wrap64 b[A] = b[A] := w64 (by omega) (by omega)
      rw [dif_pos hm]
      refine Ev.bind (nfix1_ok hw hl4 hm O) ?_
      simp only [texts_width_f L.length (by omega), Option.bind_some, hwc]
      by_cases he : b[A] = (wd L.length : Int)
      · simp only [if_pos he]
        have := tget_j1 hl4 hw L (by omega) n b[A] (by omega) (by omega) (a := A + 1) (by omega) O
        exact this
      · simp only [if_neg he, num_Reader_Fail.f, num_Reader_Fail.next, Option.bind_some]
        rw [if_pos ⟨trivial, by decide⟩]
        exact tget_j1_err _ _ _ _ _ 4 _ (by decide)
    · obtain rfl : A = b.length := by omega
      rw [dif_neg hm]
      refine Ev.bind (nfix1_none (ntake_end hl4 O)) ?_
      simp only [texts_width_f L.length (by omega), Option.bind_some]
      by_cases he : wrap64 0 = (wd L.length : Int)
      · simp only [if_pos he]
        exact tget_j1_err _ _ _ _ _ 2 _ (by decide)
      · simp only [if_neg he, num_Reader_Fail.f, num_Reader_Fail.next, Option.bind_some]
        rw [if_neg (by simp)]
        exact tget_j1_err _ _ _ _ _ 2 _ (by decide)
  · rw [if_neg hE]
    refine Ev.bind (nfix1_none (ntake_none hl4 q4 hE)) ?_
    simp only [texts_width_f L.length q5, Option.bind_some]
    by_cases he : wrap64 0 = (wd L.length : Int)
    · simp only [if_pos he]
      exact tget_j1_err _ _ _ _ _ _ _ hE
    · simp only [if_neg he, num_Reader_Fail.f, num_Reader_Fail.next, Option.bind_some]
      rw [if_neg (fun h => hE h.1)]
      exact tget_j1_err _ _ _ _ _ _ _ hE

/-! what is written, read again -/
theorem sn_bs (s : ByteArray) : strOfNums (num_PutBlobS.bs s) = s := by
  refine tb_inj ?_
  unfold tb
  rw [strOfNums_data]
  unfold num_PutBlobS.bs
  rw [List.map_map]
  have : s.data.toList.map ((fun n : Int => UInt8.ofNat n.toNat) ∘ fun b : UInt8 => (b.toNat : Int)) = s.data.toList.map id := List.map_congr_left (fun x _ => by simp)
  rw [this, List.map_id]
theorem bs_sn {p : List Int} (hp : ∀ x ∈ p, 0 ≤ x ∧ x < 256) : num_PutBlobS.bs (strOfNums p) = p := by
  unfold num_PutBlobS.bs
  rw [strOfNums_data, List.map_map]
  have : p.map ((fun b : UInt8 => (b.toNat : Int)) ∘ fun n : Int => UInt8.ofNat n.toNat) = p.map id := List.map_congr_left (fun x hx => by
    have h := hp x hx
    simp only [Function.comp, id]
    rw [UInt8.toNat_ofNat']; omega)
  rw [this, List.map_id]
theorem bs_bytes (s : ByteArray) : ∀ x ∈ num_PutBlobS.bs s, 0 ≤ x ∧ x < 256 := by
  intro x hx
  obtain ⟨b, _, rfl⟩ := List.mem_map.1 hx
  have := b.toNat_lt
  omega
theorem blb_blob {b rest : List Int} {s : ByteArray} {a : Nat} (ha : a ≤ b.length) (hs : s.size ≤ 65536) (hb : b.drop a = blob s ++ rest) : blb b a = (num_PutBlobS.bs s, a + (blob s).length, 0) := by
  have hbl := num_PutBlobS.bs_length s
  have hb2 := hb
  unfold blob at hb
  rw [List.append_assoc] at hb
  have hsh := sh_leb (num_PutBlobS.bs s ++ rest) s.size 0 0 (by omega) (fun h => by omega) (by rw [Nat.pow_zero]; omega)
  rw [Nat.pow_zero, Nat.mul_one, Nat.zero_add, Nat.zero_add, ← hb] at hsh
  have hlen := congrArg List.length hb
  rw [List.length_drop, List.length_append, List.length_append, hbl] at hlen
  have hdrop : b.drop (a + (leb s.size).length) = num_PutBlobS.bs s ++ rest := by rw [← List.drop_drop, hb, List.drop_left]
  unfold blb
  rw [hsh]
  simp only [if_true, Int.toNat_natCast]
  rw [if_neg (by omega), if_neg (by omega), hdrop]
  have e : (num_PutBlobS.bs s ++ rest).take s.size = num_PutBlobS.bs s := by rw [← hbl, List.take_left]
  rw [e]
  unfold blob
  rw [List.length_append, hbl, Nat.add_assoc]
theorem rises_of {out : List ByteArray} {s : ByteArray} (h : Asc (out ++ [s])) : rises out s := by
  intro y hy
  exact (List.pairwise_append.1 h).2.2 y (List.mem_of_getLast? hy) s (by simp)
theorem tst_blobs (b : List Int) : ∀ (L out : List ByteArray) (a : Nat) (rest : List Int), Asc (out ++ L) → (∀ s ∈ L, s.size ≤ 65536) → a ≤ b.length → b.drop a = blobs L ++ rest →
    tst b L.length a out = (out ++ L, a + (blobs L).length, 0) := by
  intro L
  induction L with
  | nil => intro out a rest _ _ _ _; simp [tst, blobs]
  | cons s r ih =>
    intro out a rest hA hs ha hb
    rw [blobs, List.append_assoc] at hb
    have hb1 := blb_blob ha (hs s (by simp)) hb
    have hdrop : b.drop (a + (blob s).length) = blobs r ++ rest := by rw [← List.drop_drop, hb, List.drop_left]
    have hlen := congrArg List.length hb
    rw [List.length_drop, List.length_append] at hlen
    have hA2 : Asc ((out ++ [s]) ++ r) := by simpa using hA
    have hr : rises out s := rises_of (List.pairwise_append.1 hA2).1
    have hn := ih (out ++ [s]) (a + (blob s).length) rest hA2 (fun x hx => hs x (by simp [hx])) (by omega) hdrop
    rw [List.length_cons, tst, hb1]
    simp only [if_true]
    rw [sn_bs, if_pos hr, hn, blobs, List.length_append]
    simp [Nat.add_assoc]
theorem tpicked_places {L l : List ByteArray} (hm : ∀ x, x ∈ L ↔ x ∈ l) (hL : Asc L) : tpicked L (tplaces L l) = (l, 0) := by
  unfold tpicked
  rw [if_neg, if_pos]
  · unfold tplaces
    rw [List.map_map]
    have : l.map (rdOf ByteArray.empty L ∘ fun s => (((pl s L).1 : Nat) : Int)) = l.map id := List.map_congr_left (fun x hx => by
      obtain ⟨h1, h2⟩ := pl_get hL ((hm x).2 hx)
      simp only [Function.comp, id]
      rw [rdo_get h1, h2])
    rw [this, List.map_id]
  · intro j hj
    have hmem := List.getElem_mem hj
    refine List.mem_map.2 ⟨L[j], (hm _).1 hmem, ?_⟩
    obtain ⟨h1, h2⟩ := pl_get hL hmem
    rw [asc_inj hL h1 hj h2]
  · rintro ⟨x, hx, h⟩
    obtain ⟨y, hy, rfl⟩ := List.mem_map.1 hx
    obtain ⟨h1, _⟩ := pl_get hL ((hm y).2 hy)
    omega
theorem text_get_put (l : List ByteArray) (hl : l.length ≤ 200) (hs : ∀ s ∈ l, s.size ≤ 65536) : textv (textOf l) l.length = (l, 0) := by
  have hL := tl_asc l
  have hn0 := tl_len l
  have hLs : ∀ x ∈ tl l, x.size ≤ 65536 := fun x hx => hs x ((tl_mem l x).1 hx)
  have hmm := tl_mem l
  unfold textOf
  generalize tl l = L at *
  have hwd := wd_64 L.length (by omega)
  have hpf := tplaces_fit (L := L) (l := l) hL (fun x hx => (hmm x).2 hx) (by omega)
  obtain ⟨_, _, _, hu⟩ := unpack_pack (tplaces L l) (wd L.length) hwd (by rw [tplaces_len]; exact hl) hpf.1 hpf.2
  rw [tplaces_len] at hu
  have ha : leb L.length ++ blobs L ++ [(wd L.length : Int)] ++ (packed (tplaces L l) (wd L.length)).1 = leb L.length ++ (blobs L ++ ((wd L.length : Int) :: (packed (tplaces L l) (wd L.length)).1)) := by simp
  rw [ha]
  generalize hB : leb L.length ++ (blobs L ++ ((wd L.length : Int) :: (packed (tplaces L l) (wd L.length)).1)) = B
  have hsh := sh_leb (blobs L ++ ((wd L.length : Int) :: (packed (tplaces L l) (wd L.length)).1)) L.length 0 0 (by omega) (fun h => by omega) (by rw [Nat.pow_zero]; omega)
  rw [Nat.pow_zero, Nat.mul_one, Nat.zero_add, Nat.zero_add, hB] at hsh
  have hd1 : B.drop (leb L.length).length = blobs L ++ ((wd L.length : Int) :: (packed (tplaces L l) (wd L.length)).1) := by rw [← hB, List.drop_left]
  have hBl : (leb L.length).length + (blobs L).length < B.length := by rw [← hB]; simp
  have hlst := tst_blobs B L [] (leb L.length).length _ (by simpa using hL) hLs (by omega) hd1
  rw [List.nil_append] at hlst
  have hv : tsv B l.length = (L, (leb L.length).length + (blobs L).length, 0) := by
    unfold tsv
    rw [hsh]
    simp only [if_true, Int.toNat_natCast]
    rw [if_neg (by omega), hlst]
  have hd2 : B.drop ((leb L.length).length + (blobs L).length) = (wd L.length : Int) :: (packed (tplaces L l) (wd L.length)).1 := by
    rw [← List.drop_drop, hd1, List.drop_left]
  have hget : B[(leb L.length).length + (blobs L).length] = (wd L.length : Int) := by
    have := dropc B _ hBl
    rw [hd2] at this
    exact (List.cons.inj this).1.symm
  have hd3 : B.drop ((leb L.length).length + (blobs L).length + 1) = (packed (tplaces L l) (wd L.length)).1 := by
    have := dropc B _ hBl
    rw [hd2] at this
    exact (List.cons.inj this).2.symm
  unfold textv
  rw [if_neg (by omega), hv]
  simp only [if_true]
  rw [dif_pos hBl, hget, if_pos rfl, hd3, hu]
  simp only [if_true]
  exact tpicked_places hmm hL
theorem asc_app {out : List ByteArray} {s : ByteArray} (hs : Asc out) (hr : rises out s) : Asc (out ++ [s]) := by
  refine List.pairwise_append.2 ⟨hs, List.pairwise_singleton _ _, fun x hx y hy => ?_⟩
  rw [List.mem_singleton] at hy
  subst hy
  obtain ⟨i, hi, rfl⟩ := List.getElem_of_mem hx
  obtain ⟨hl, h⟩ := rises_cons (show ¬ out.length = 0 by omega) y
  have hlast : LT out[out.length - 1] y := h.1 hr
  by_cases c : i = out.length - 1
  · subst c; exact hlast
  · exact (asc_at hs hl (by omega)).trans hlast
/-- what is written, from what is read -/
theorem blb_back {b : List Int} (hw : ∀ x ∈ b, 0 ≤ x ∧ x < 256) (a : Nat) (h : (blb b a).2.2 = 0) : (strOfNums (blb b a).1).size ≤ 65536 ∧ b.drop a = blob (strOfNums (blb b a).1) ++ b.drop (blb b a).2.1 := by
  unfold blb at h ⊢
  rcases sh_cases (b.drop a) 0 0 (drop_bytes hw a) (by omega) (by decide) with hh | hh | ⟨v, m, hh, g1, g2, hv⟩
  · rw [hh] at h; simp at h
  · rw [hh] at h; simp at h
  · rw [List.length_drop] at g2
    obtain ⟨w, f1, f2, _, _⟩ := leb_sh (b.drop a) 0 0 v m (drop_bytes hw a) hh
    rw [Nat.pow_zero, Nat.mul_one, Nat.zero_add] at f2
    rw [Nat.sub_zero, List.drop_drop] at f1
    subst f2
    rw [hh] at h ⊢
    simp only [if_true, Int.toNat_natCast] at h ⊢
    by_cases c : 65536 < v
    · rw [if_pos c] at h; simp at h
    · rw [if_neg c] at h ⊢
      by_cases c2 : b.length - a - m < v
      · rw [if_pos c2] at h; simp at h
      · rw [if_neg c2]
        have hpl : ((b.drop (a + m)).take v).length = v := by rw [List.length_take, List.length_drop]; omega
        refine ⟨by rw [strOfNums_size, hpl]; omega, ?_⟩
        show b.drop a = blob (strOfNums ((b.drop (a + m)).take v)) ++ b.drop (a + m + v)
        unfold blob
        rw [strOfNums_size, hpl, bs_sn (fun x hx => drop_bytes hw (a + m) x (List.mem_of_mem_take hx)), List.append_assoc, show b.drop (a + m + v) = (b.drop (a + m)).drop v from by rw [List.drop_drop], List.take_append_drop]
        exact f1
theorem tst_back {b : List Int} (hw : ∀ x ∈ b, 0 ≤ x ∧ x < 256) : ∀ (c a : Nat) (out : List ByteArray), Asc out → (tst b c a out).2.2 = 0 →
    ∃ r, (tst b c a out).1 = out ++ r ∧ Asc (out ++ r) ∧ (∀ s ∈ r, s.size ≤ 65536) ∧ b.drop a = blobs r ++ b.drop (tst b c a out).2.1 := by
  intro c
  induction c with
  | zero => intro a out hs _; exact ⟨[], by simp [tst], by simpa using hs, by simp, by simp [tst, blobs]⟩
  | succ c ih =>
    intro a out hs h
    rw [tst] at h ⊢
    by_cases c0 : (blb b a).2.2 = 0
    · obtain ⟨z1, z2⟩ := blb_back hw a c0
      rw [if_pos c0] at h ⊢
      generalize blb b a = B at *
      obtain ⟨p, A, e⟩ := B
      simp only at h z1 z2 ⊢
      by_cases c1 : rises out (strOfNums p)
      · rw [if_pos c1] at h ⊢
        obtain ⟨r, r1, r2, r3, r4⟩ := ih A (out ++ [strOfNums p]) (asc_app hs c1) h
        refine ⟨strOfNums p :: r, by rw [r1]; simp, by simpa using r2, fun s hs => ?_, ?_⟩
        · rcases List.mem_cons.1 hs with rfl | hs
          · exact z1
          · exact r3 s hs
        · rw [blobs, List.append_assoc, ← r4]; exact z2
      · rw [if_neg c1] at h; simp at h
    · rw [if_neg c0] at h; exact absurd h c0
theorem tsv_back {b : List Int} (hw : ∀ x ∈ b, 0 ≤ x ∧ x < 256) {n : Int} (h : (tsv b n).2.2 = 0) :
    Asc (tsv b n).1 ∧ (∀ x ∈ (tsv b n).1, x.size ≤ 65536) ∧ b = leb (tsv b n).1.length ++ blobs (tsv b n).1 ++ b.drop (tsv b n).2.1 := by
  unfold tsv at h ⊢
  rcases sh_cases b 0 0 hw (by omega) (by decide) with hs | hs | ⟨v, m, hs, g1, g2, hv⟩
  · rw [hs] at h; simp at h
  · rw [hs] at h; simp at h
  · rw [hs] at h ⊢
    simp only [if_true, Int.toNat_natCast] at h ⊢
    obtain ⟨w, f1, f2, _, _⟩ := leb_sh b 0 0 v m hw hs
    rw [Nat.pow_zero, Nat.mul_one, Nat.zero_add] at f2
    rw [Nat.sub_zero] at f1
    subst f2
    by_cases c : (v : Int) > n
    · rw [if_pos c] at h; simp at h
    · rw [if_neg c] at h ⊢
      have hl0 := tst_len b v m [] h
      rw [List.length_nil, Nat.zero_add] at hl0
      obtain ⟨r, r1, r2, r3, r4⟩ := tst_back hw v m [] List.Pairwise.nil h
      rw [List.nil_append] at r1 r2
      rw [hl0, r1]
      refine ⟨r2, r3, ?_⟩
      rw [List.append_assoc, ← r4]
      exact f1
theorem tpicked_ok {L z : List ByteArray} {d : List Int} (h : tpicked L d = (z, 0)) : (∀ x ∈ d, x < (L.length : Int)) ∧ (∀ j, j < L.length → (j : Int) ∈ d) ∧ z = d.map (rdOf ByteArray.empty L) := by
  unfold tpicked at h
  by_cases c : ∃ x ∈ d, x ≥ (L.length : Int)
  · rw [if_pos c] at h; simp at h
  · rw [if_neg c] at h
    by_cases c2 : ∀ j, j < L.length → (j : Int) ∈ d
    · rw [if_pos c2] at h
      simp only [Prod.mk.injEq, and_true] at h
      exact ⟨fun x hx => Int.not_le.1 (fun h => c ⟨x, hx, h⟩), c2, h.symm⟩
    · rw [if_neg c2] at h; simp at h
theorem tplaces_back {L : List ByteArray} {d : List Int} (hL : Asc L) (h0 : ∀ x ∈ d, 0 ≤ x) (h1 : ∀ x ∈ d, x < (L.length : Int)) : tplaces L (d.map (rdOf ByteArray.empty L)) = d := by
  unfold tplaces
  rw [List.map_map]
  have : d.map ((fun s => (((pl s L).1 : Nat) : Int)) ∘ rdOf ByteArray.empty L) = d.map id := by
    refine List.map_congr_left (fun x hx => ?_)
    obtain ⟨j, rfl⟩ := Int.eq_ofNat_of_zero_le (h0 x hx)
    have hj : j < L.length := Int.ofNat_lt.1 (h1 _ hx)
    simp only [Function.comp, id]
    rw [rdo_get hj]
    obtain ⟨q1, q2⟩ := pl_get hL (List.getElem_mem hj)
    rw [asc_inj hL q1 hj q2]
  rw [this, List.map_id]
theorem text_put_get {b : List Int} (hw : ∀ x ∈ b, 0 ≤ x ∧ x < 256) {n : Int} {z : List ByteArray} (h : textv b n = (z, 0)) : textOf z = b ∧ z.length ≤ 65536 ∧ ∀ x ∈ z, x.size ≤ 65536 := by
  unfold textv at h
  by_cases h0 : n < 0 ∨ n > 65536
  · rw [if_pos h0] at h; simp at h
  rw [if_neg h0] at h
  by_cases hE : (tsv b n).2.2 = 0
  · rw [if_pos hE] at h
    obtain ⟨s1, s2, s3⟩ := tsv_back hw hE
    generalize tsv b n = R at *
    obtain ⟨L, A, E⟩ := R
    simp only at h s1 s2 s3 hE
    by_cases hm : A < b.length
    · rw [dif_pos hm] at h
      by_cases hc : b[A] = (wd L.length : Int)
      · rw [if_pos hc] at h
        by_cases hu : (unpacked (b.drop (A + 1)) n b[A]).2 = 0
        · rw [if_pos hu] at h
          obtain ⟨u1, u2, u3⟩ := pack_unpack (b.drop (A + 1)) n b[A] (drop_bytes hw _) (unpacked (b.drop (A + 1)) n b[A]).1 (by rw [← hu])
          generalize (unpacked (b.drop (A + 1)) n b[A]).1 = d at *
          obtain ⟨p1, p2, rfl⟩ := tpicked_ok h
          have hmem : ∀ x, x ∈ L ↔ x ∈ d.map (rdOf ByteArray.empty L) := by
            intro x
            constructor
            · intro hx
              obtain ⟨j, hj, rfl⟩ := List.getElem_of_mem hx
              exact List.mem_map.2 ⟨(j : Int), p2 j hj, rdo_get hj⟩
            · intro hx
              obtain ⟨y, hy, rfl⟩ := List.mem_map.1 hx
              obtain ⟨j, rfl⟩ := Int.eq_ofNat_of_zero_le (u2 y hy).1
              have hj : j < L.length := Int.ofNat_lt.1 (p1 _ hy)
              rw [rdo_get hj]; exact List.getElem_mem hj
          refine ⟨?_, by rw [List.length_map]; omega, fun x hx => s2 x ((hmem x).2 hx)⟩
          unfold textOf
          rw [tl_eq s1 hmem, tplaces_back s1 (fun x hx => (u2 x hx).1) p1, ← hc, u3]
          conv => rhs; rw [s3, dropc b A hm]
          simp
        · rw [if_neg hu] at h
          simp only [Prod.mk.injEq] at h
          exact absurd h.2 hu
      · rw [if_neg hc] at h; simp at h
    · rw [dif_neg hm] at h; simp at h
  · rw [if_neg hE] at h
    simp only [Prod.mk.injEq] at h
    exact absurd h.2 hE
theorem blobs_bytes : ∀ (l : List ByteArray), ∀ x ∈ blobs l, 0 ≤ x ∧ x < 256 := by
  intro l
  induction l with
  | nil => intro x hx; cases hx
  | cons y l ih =>
    intro x hx
    rw [blobs] at hx
    rcases List.mem_append.1 hx with h | h
    · unfold blob at h
      rcases List.mem_append.1 h with h | h
      · exact leb_bytes _ x h
      · exact bs_bytes _ x h
    · exact ih x h
theorem text_bytes (l : List ByteArray) (hl : l.length ≤ 200) : ∀ x ∈ textOf l, 0 ≤ x ∧ x < 256 := by
  have hL := tl_asc l
  have hn0 := tl_len l
  have hmm := tl_mem l
  unfold textOf
  generalize tl l = L at *
  have hwd := wd_64 L.length (by omega)
  have hpf := tplaces_fit (L := L) (l := l) hL (fun x hx => (hmm x).2 hx) (by omega)
  obtain ⟨_, hb, _, _⟩ := unpack_pack (tplaces L l) (wd L.length) hwd (by rw [tplaces_len]; exact hl) hpf.1 hpf.2
  intro x hx
  rcases List.mem_append.1 hx with hx | hx
  · rcases List.mem_append.1 hx with hx | hx
    · rcases List.mem_append.1 hx with hx | hx
      · exact leb_bytes _ x hx
      · exact blobs_bytes _ x hx
    · simp at hx; omega
  · exact hb x hx
theorem blobs_len100 : ∀ (L : List ByteArray), (∀ s ∈ L, s.size ≤ 100) → (blobs L).length ≤ 110 * L.length
  | [], _ => Nat.zero_le _
  | s :: r, h => by
    have h2 := blobs_len100 r (fun x hx => h x (by simp [hx]))
    have h3 := h s (by simp)
    have h10 := leb_length10 (v := s.size) (by omega)
    have h4 : (blob s).length = (leb s.size).length + s.size := by unfold blob; rw [List.length_append, num_PutBlobS.bs_length]
    rw [blobs, List.length_append, List.length_cons, h4]; omega
theorem textOf_len100 (l : List ByteArray) (hl : l.length ≤ 100) (hs : ∀ s ∈ l, s.size ≤ 100) : (textOf l).length ≤ 20000 := by
  have hL := tl_asc l
  have hn0 := tl_len l
  have hLs : ∀ x ∈ tl l, x.size ≤ 100 := fun x hx => hs x ((tl_mem l x).1 hx)
  have hm : ∀ x ∈ l, x ∈ tl l := fun x hx => (tl_mem l x).2 hx
  have hf := blobs_len100 _ hLs
  obtain ⟨_, p2⟩ := tplaces_ok hL hm (by omega) (by omega)
  have h10 := leb_length10 (v := (tl l).length) (by omega)
  unfold textOf
  simp only [List.length_append, List.length_singleton]
  omega
theorem tback_j2 (l : List ByteArray) (c : Int) (h0 : 0 ≤ c) (h1 : c < 256) (hl : l.length ≤ 100) : Ev (fun k => estreatlaw13_TextsBack.j2 k l c) true := by
  have e1 : wrap64 (65537 + wrap64 c) = 65537 + c := by rw [w64 (n := c) (by omega) (by omega), w64 (by omega) (by omega)]
  have c1 : ([] : List ByteArray).length + l.length < 8796093022208 := by simp; omega
  have c2 : (0 : Int) ≤ 65537 + c := by omega
  have c3 : (65537 + c).toNat ≤ 281474976710656 := by omega
  have hlen : (([] : List ByteArray) ++ l ++ [strOfNums (List.replicate (65537 + c).toNat 0)]).length ≤ 101 := by simp; omega
  have c4 : (([] : List ByteArray) ++ l).length + [strOfNums (List.replicate (65537 + c).toNat 0)].length < 8796093022208 := by simp; omega
  have hput : Ev (fun k => texts_Put.f k (([] : List ByteArray) ++ l ++ [strOfNums (List.replicate (65537 + c).toNat 0)])) ([], 12) := by
    have hlong : slices_ContainsFunc_string_string.f (([] : List ByteArray) ++ l ++ [strOfNums (List.replicate (65537 + c).toNat 0)]) = some true := by
      unfold slices_ContainsFunc_string_string.f
      congr 1
      rw [List.any_eq_true]
      refine ⟨strOfNums (List.replicate (65537 + c).toNat 0), by simp, ?_⟩
      unfold slices_IndexFunc_string_string.p
      rw [strOfNums_size, List.length_replicate]
      exact decide_eq_true (by omega)
    generalize ([] : List ByteArray) ++ l ++ [strOfNums (List.replicate (65537 + c).toNat 0)] = X at *
    unfold texts_Put.f
    have cX : ¬ (X.length : Int) > 65536 := by omega
    simp only [if_neg cX, hlong]
    refine Ev.bind (Ev.now _) ?_
    exact Ev.step (f := fun _ => some ([], 12)) (fun k => by simp only [texts_Put.j0]; rw [if_pos trivial]) (Ev.now _)
  refine Ev.step (f := fun k => (texts_Put.f k (([] : List ByteArray) ++ l ++ [strOfNums (List.replicate (65537 + c).toNat 0)])).bind fun bt => if bt.2 = 12 then (estreatlaw13_awake.f k).bind fun t => some t else some false) (fun k => by
    simp only [estreatlaw13_TextsBack.j2, Option.bind_some, e1, if_pos c1, if_pos c2, if_pos c3, if_pos c4]) ?_
  refine Ev.bind hput ?_
  simp only [if_true]
  exact Ev.bind textawake (Ev.now _)
theorem TextsBack : estreatlaw13_TextsBack.Pure := by
  intro l b n c hm _ hm2 hs2 hw2 _ hc
  have hb' : ∀ x ∈ b, 0 ≤ x ∧ x < 256 := fun x hx => wf_u8 (hw2 x hx)
  have hc' := wf_u8 hc
  refine Ev.rounds ?_
  unfold estreatlaw13_TextsBack.f
  obtain ⟨g, hg, hgf⟩ := great_f l 100 100 hm (by decide)
  refine Ev.bind hg ?_
  have hout : Ev (fun k => estreatlaw13_TextsBack.j0 k l b n c true) true := by
    refine Ev.step (f := fun k => _) (fun k => by simp only [estreatlaw13_TextsBack.j0]; rw [if_pos trivial]) ?_
    exact Ev.bind textawake (Ev.now _)
  cases g
  · obtain ⟨hl, hsz⟩ := hgf rfl
    have hs : ∀ s ∈ l, s.size ≤ 65536 := fun s hs => Nat.le_trans (hsz s hs) (by decide)
    simp only [Bool.false_eq_true, if_false]
    have hin : b.length ≤ 800 → Ev (fun k => estreatlaw13_TextsBack.j0 k l b n c false) true := by
      intro hb
      have hfl := textOf_len100 l hl hsz
      refine Ev.step (f := fun k => _) (fun k => by simp only [estreatlaw13_TextsBack.j0]; rw [if_neg (by decide)]) ?_
      refine Ev.bind (textput_f l (by omega) hs) ?_
      have e0 := textget_f (b := textOf l) (text_bytes l (by omega)) (by omega) (l.length : Int)
      rw [text_get_put l (by omega) hs] at e0
      refine Ev.bind e0 ?_
      refine Ev.bind (tsame_f _ _ (show l.length ≤ 1000000 by omega)) ?_
      simp only [decide_true, if_true]
      refine Ev.step (f := fun k => _) (fun k => by
        simp only [estreatlaw13_TextsBack.j1]
        rw [if_neg (by decide)]) ?_
      refine Ev.bind (textget_f hb' (by omega) n) ?_
      by_cases h : (textv b n).2 = 0
      · obtain ⟨p1, p2, p3⟩ := text_put_get hb' (n := n) (z := (textv b n).1) (by rw [← h])
        simp only [if_pos h]
        have hp := textput_f (textv b n).1 p2 p3
        rw [p1] at hp
        refine Ev.bind hp ?_
        simp only [if_true]
        refine Ev.bind (a := true) ⟨b.length + 1, fun k hk => by
          have := same_f b b (by omega) k (by omega)
          simpa using this⟩ ?_
        simp only [if_true]
        exact tback_j2 l c hc'.1 hc'.2 hl
      · simp only [if_neg h]
        exact tback_j2 l c hc'.1 hc'.2 hl
    by_cases c1 : (b.length : Int) > 800
    · simp only [if_pos c1]; exact hout
    · simp only [if_neg c1]
      by_cases c2 : n > 500
      · simp only [if_pos c2]
        by_cases c3 : n ≤ 65536
        · rw [decide_eq_true c3]; exact hout
        · rw [decide_eq_false c3]; exact hin (by omega)
      · simp only [if_neg c2]; exact hin (by omega)
  · simp only [if_true]; exact hout

end Go.Proofs.YtbkocklahdlgkaaDoor.Pure
