/- Plain facts on what the ways put (out of earlier laws' texts). -/
import Derived.Test.YtefcchpjbojdkaaGreatDoorPChunkPutsx22
import Derived.Lib.Zigzag
import Derived.Lib.BitFns
import Derived.Test.YtefcchpjbojdkaaGreatDoorPChunkPutsx13
import Derived.Test.YtefcchpjbojdkaaGreatDoorPChunkPutsx15
namespace Go.Proofs.YtefcchpjbojdkaaGreatDoor.Pure
open Go.RowKit Go.Proofs.YtefcchpjbojdkaaGreatDoor.PChunkPuts Go.Proofs.YtefcchpjbojdkaaGreatDoorW.PrintWords Go.Proofs.YtefcchpjbojdkaaGreatDoorW.PrintLast Go.Proofs.YtefcchpjbojdkaaGreatDoorW.PrintMore
set_option linter.unusedVariables false
set_option linter.unusedSimpArgs false

/-! estreatref01.Same: are two lists one? -/
theorem same_l0 (xs ys : List Int) (hl : xs.length = ys.length) (hb : xs.length < 9223372036854775807) : ∀ (d k i : Nat), xs.length = i + d → d < k → estreatref01_Same.l0 k xs ys i = some (decide (xs.drop i = ys.drop i)) := by
  intro d
  induction d with
  | zero =>
    intro k i hd hk
    obtain ⟨k, rfl⟩ : ∃ m, k = m + 1 := ⟨k - 1, by omega⟩
    simp only [estreatref01_Same.l0]; rw [if_neg (by omega), List.drop_of_length_le (by omega), List.drop_of_length_le (by omega)]; simp
  | succ d ih =>
    intro k i hd hk
    obtain ⟨k, rfl⟩ : ∃ m, k = m + 1 := ⟨k - 1, by omega⟩
    simp only [estreatref01_Same.l0]
    have := ih k (i + 1) (by omega) (by omega)
    simp only [Int.natCast_add, Int.natCast_one] at this
    rw [if_pos (by omega), if_pos (by omega), if_pos (by omega), rd_get (by omega), rd_get (by omega), w64 (by omega) (by omega), this]
    have ex : xs.drop i = xs[i] :: xs.drop (i + 1) := List.drop_eq_getElem_cons (by omega)
    have ey : ys.drop i = ys[i] :: ys.drop (i + 1) := List.drop_eq_getElem_cons (by omega)
    rw [ex, ey]
    by_cases h : xs[i] = ys[i]
    · rw [if_pos h, h]; simp only [List.cons.injEq, true_and]
    · rw [if_neg h, decide_eq_false]; simp only [List.cons.injEq, h, false_and, not_false_eq_true]
theorem same_f (xs ys : List Int) (hb : xs.length < 9223372036854775807) : ∀ k, xs.length < k → estreatref01_Same.f k xs ys = some (decide (xs = ys)) := by
  intro k hk
  unfold estreatref01_Same.f
  by_cases h : xs.length = ys.length
  · rw [if_pos (by omega)]
    have := same_l0 xs ys h hb xs.length k 0 (by omega) hk
    simpa using this
  · rw [if_neg (by omega)]
    have : xs ≠ ys := fun e => h (by rw [e])
    simp [this]

theorem refvar_f : ∀ (n k v : Nat), v < 128 ^ (n + 1) → v < 18446744073709551616 → n < 100 → n < k → estreatref01_Var.f k v = some (leb v) := by
  intro n
  induction n with
  | zero =>
    intro k v hv h64 hn hk
    obtain ⟨k, rfl⟩ : ∃ m, k = m + 1 := ⟨k - 1, by omega⟩
    simp only [estreatref01_Var.f]
    rw [if_pos (by omega), leb_small (by omega), Int.emod_eq_of_lt (by omega) (by omega)]
  | succ n ih =>
    intro k v hv h64 hn hk
    obtain ⟨k, rfl⟩ : ∃ m, k = m + 1 := ⟨k - 1, by omega⟩
    simp only [estreatref01_Var.f]
    by_cases h : v < 128
    · rw [if_pos (by omega), leb_small h, Int.emod_eq_of_lt (by omega) (by omega)]
    · rw [if_neg (by omega), leb_big h]
      have hp : v / 128 < 128 ^ (n + 1) := by rw [Nat.div_lt_iff_lt_mul (by decide)]; rw [Nat.pow_succ] at hv; omega
      have e : IntKind.u64.wrap (Int.tdiv (v : Int) 128) = ((v / 128 : Nat) : Int) := by
        rw [Int.tdiv_eq_ediv_of_nonneg (by omega), u64w_id (by omega) (by omega)]; omega
      have e2 : IntKind.u64.wrap (128 + Int.tmod (v : Int) 128) % 256 = ((v % 128 + 128 : Nat) : Int) := by
        rw [Int.tmod_eq_emod_of_nonneg (by omega), u64w_id (by omega) (by omega)]; omega
      have hl := leb_length n (v / 128) hp
      rw [e, e2, ih k (v / 128) hp (by omega) (by omega) (by omega)]
      simp only [Option.bind_some]
      rw [if_pos (by simp; omega)]; simp
theorem refvar {v : Int} {k : Nat} (h0 : 0 ≤ v) (h1 : v < 18446744073709551616) (hk : 10 ≤ k) : estreatref01_Var.f k v = some (leb v.toNat) := by
  obtain ⟨n, rfl⟩ := Int.eq_ofNat_of_zero_le h0
  exact refvar_f 9 k n (Nat.lt_trans (by omega) p128) (by omega) (by omega) (by omega)

theorem refzig_f {x : Int} (h0 : -9223372036854775808 ≤ x) (h1 : x ≤ 9223372036854775807) : estreatref01_Zig.f x = some (zz x) := by
  unfold estreatref01_Zig.f zz
  by_cases h : 0 ≤ x
  · rw [if_pos h, if_pos h, u64w, u64w]; congr 1; omega
  · rw [if_neg h, if_neg h, u64w, u64w, u64w]; unfold wrap64; congr 1; omega

/-! bytes as one number, and back -/
def leN : List Int → Nat
  | [] => 0
  | x :: xs => x.toNat + 256 * leN xs
def digs : Nat → Nat → List Int
  | 0, _ => []
  | s + 1, N => ((N % 256 : Nat) : Int) :: digs s (N / 256)
def Bytes (xs : List Int) : Prop := ∀ x ∈ xs, 0 ≤ x ∧ x < 256
theorem digs_length : ∀ s N, (digs s N).length = s := by
  intro s; induction s with
  | zero => intro N; rfl
  | succ s ih => intro N; simp [digs, ih]
theorem digs_leN : ∀ (xs : List Int), Bytes xs → digs xs.length (leN xs) = xs := by
  intro xs; induction xs with
  | nil => intro _; rfl
  | cons x xs ih =>
    intro h
    have hx := h x (by simp)
    have := ih (fun y hy => h y (by simp [hy]))
    simp only [List.length_cons, digs, leN]
    have e1 : (x.toNat + 256 * leN xs) % 256 = x.toNat := by omega
    have e2 : (x.toNat + 256 * leN xs) / 256 = leN xs := by omega
    rw [e1, e2, this, Int.toNat_of_nonneg hx.1]
theorem leN_digs : ∀ s N, N < 256 ^ s → leN (digs s N) = N := by
  intro s; induction s with
  | zero => intro N h; simp at h; simp [digs, leN, h]
  | succ s ih =>
    intro N h
    simp only [digs, leN]
    rw [ih (N / 256) (by rw [Nat.div_lt_iff_lt_mul (by decide)]; rw [Nat.pow_succ] at h; exact h)]
    omega
theorem digs_bytes : ∀ s N, Bytes (digs s N) := by
  intro s; induction s with
  | zero => intro N x hx; simp [digs] at hx
  | succ s ih =>
    intro N x hx
    simp only [digs, List.mem_cons] at hx
    rcases hx with rfl | hx
    · omega
    · exact ih _ x hx
theorem leN_set : ∀ (xs : List Int) (q : Nat) (v d : Int) (h : q < xs.length), 0 ≤ xs[q] → 0 ≤ d → v = xs[q] + d → leN (xs.set q v) = leN xs + 256 ^ q * d.toNat := by
  intro xs; induction xs with
  | nil => intro q v d h; simp at h
  | cons x xs ih =>
    intro q v d h h0 hd hv
    cases q with
    | zero =>
      simp only [List.getElem_cons_zero] at h0 hv
      simp only [List.set_cons_zero, leN, Nat.pow_zero, Nat.one_mul]; omega
    | succ q =>
      simp only [List.getElem_cons_succ] at h0 hv
      have := ih q v d (by simpa using h) h0 hd hv
      simp only [List.set_cons_succ, leN, this, Nat.pow_succ, Nat.mul_add]
      have : 256 * (256 ^ q * d.toNat) = 256 ^ q * 256 * d.toNat := by rw [Nat.mul_comm (256 ^ q) 256, Nat.mul_assoc]
      omega
theorem leN_lt : ∀ (xs : List Int), Bytes xs → leN xs < 256 ^ xs.length := by
  intro xs; induction xs with
  | nil => intro _; simp [leN]
  | cons x xs ih =>
    intro h
    have hx := h x (by simp)
    have := ih (fun y hy => h y (by simp [hy]))
    simp only [leN, List.length_cons, Nat.pow_succ]; omega
theorem leN_at : ∀ (xs : List Int) (q : Nat) (h : q < xs.length), Bytes xs → (xs[q]).toNat = leN xs / 256 ^ q % 256 := by
  intro xs; induction xs with
  | nil => intro q h; simp at h
  | cons x xs ih =>
    intro q h hb
    have hx := hb x (by simp)
    cases q with
    | zero => simp only [List.getElem_cons_zero, leN, Nat.pow_zero, Nat.div_one]; omega
    | succ q =>
      have := ih q (by simpa using h) (fun y hy => hb y (by simp [hy]))
      simp only [List.getElem_cons_succ, leN, this, Nat.pow_succ]
      rw [Nat.mul_comm (256 ^ q) 256, ← Nat.div_div_eq_div_mul]
      have e : (x.toNat + 256 * leN xs) / 256 = leN xs := by omega
      rw [e]
theorem leN_zeros : ∀ n, leN (List.replicate n 0) = 0 := by
  intro n; induction n with
  | zero => rfl
  | succ n ih => simp [List.replicate_succ, leN, ih]
/-- numbers of w bits each as one number -/
def numN (w : Nat) : List Int → Nat
  | [] => 0
  | x :: xs => x.toNat + 2 ^ w * numN w xs
theorem numN_append (w : Nat) : ∀ (xs ys : List Int), numN w (xs ++ ys) = numN w xs + 2 ^ (w * xs.length) * numN w ys := by
  intro xs; induction xs with
  | nil => intro ys; simp [numN]
  | cons x xs ih =>
    intro ys
    simp only [List.cons_append, numN, ih, List.length_cons, Nat.mul_add, Nat.mul_one, Nat.pow_add]
    have : 2 ^ w * (2 ^ (w * xs.length) * numN w ys) = 2 ^ (w * xs.length) * 2 ^ w * numN w ys := by rw [Nat.mul_comm (2 ^ (w * xs.length)) (2 ^ w), Nat.mul_assoc]
    omega
theorem numN_lt (w : Nat) : ∀ (xs : List Int), (∀ x ∈ xs, x.toNat < 2 ^ w) → numN w xs < 2 ^ (w * xs.length) := by
  intro xs; induction xs with
  | nil => intro _; simp [numN]
  | cons x xs ih =>
    intro h
    have hx := h x (by simp)
    have := ih (fun y hy => h y (by simp [hy]))
    simp only [numN, List.length_cons, Nat.mul_add, Nat.mul_one, Nat.pow_add]
    have : 2 ^ w * (numN w xs + 1) ≤ 2 ^ w * 2 ^ (w * xs.length) := Nat.mul_le_mul_left _ (by omega)
    rw [Nat.mul_add, Nat.mul_one, Nat.mul_comm (2 ^ w) (2 ^ (w * xs.length))] at this
    omega

/-! bits.Size, fits, Pack -/
def sizeN (n w : Nat) : Nat := (n * w + 7) / 8
def okSize (n w : Int) : Prop := 0 ≤ n ∧ n ≤ 65536 ∧ 0 ≤ w ∧ w ≤ 64
instance (n w : Int) : Decidable (okSize n w) := inferInstanceAs (Decidable (_ ∧ _))
theorem mul_le_64 {n w : Int} (h : okSize n w) : 0 ≤ n * w ∧ n * w ≤ 65536 * 64 :=
  ⟨Int.mul_nonneg h.1 h.2.2.1, Int.le_trans (Int.mul_le_mul_of_nonneg_right h.2.1 h.2.2.1) (Int.mul_le_mul_of_nonneg_left h.2.2.2 (by decide))⟩
theorem size_f (n w : Int) : bits_Size.f n w = some (if okSize n w then ((sizeN n.toNat w.toNat : Nat) : Int) else -1) := by
  unfold bits_Size.f
  by_cases h : okSize n w
  · have hm := mul_le_64 h
    have hh := h
    obtain ⟨h1, h2, h3, h4⟩ := hh
    rw [if_neg (by omega), if_neg (by omega), if_neg (by omega), if_neg (by omega), if_pos h, w64 (n := n * w) (by omega) (by omega), w64 (n := n * w + 7) (by omega) (by omega), Int.tdiv_eq_ediv_of_nonneg (by omega), w64 (by omega) (by omega)]
    have e : n * w = ((n.toNat * w.toNat : Nat) : Int) := by
      rw [Int.natCast_mul, Int.toNat_of_nonneg h1, Int.toNat_of_nonneg h3]
    unfold sizeN; rw [e]; congr 1
  · rw [if_neg h]
    unfold okSize at h
    by_cases c1 : n < 0
    · rw [if_pos c1]
    rw [if_neg c1]
    by_cases c2 : n > 65536
    · rw [if_pos c2]
    rw [if_neg c2]
    by_cases c3 : w < 0
    · rw [if_pos c3]
    rw [if_neg c3]
    by_cases c4 : w > 64
    · rw [if_pos c4]
    exact absurd ⟨by omega, by omega, by omega, by omega⟩ h
theorem shr64 {x : Int} {n : Nat} (h0 : 0 ≤ x) (h1 : x < 18446744073709551616) : shr .u64 x n = ((x.toNat / 2 ^ n : Nat) : Int) := by
  obtain ⟨a, rfl⟩ := Int.eq_ofNat_of_zero_le h0
  have ha : a < 2 ^ 64 := by omega
  unfold shr
  have hb : IntKind.u64.bits = 64 := rfl
  rw [hb]
  show (a : Int) / 2 ^ min (n : Int).toNat 64 = _
  rw [Int.toNat_natCast]
  by_cases h : n ≤ 64
  · rw [Nat.min_eq_left h]; simp
  · rw [Nat.min_eq_right (by omega)]
    have h64 : (2 : Nat) ^ 64 ≤ 2 ^ n := Nat.pow_le_pow_right (by decide) (by omega)
    have e1 : a / 2 ^ n = 0 := Nat.div_eq_of_lt (by omega)
    have e2 : a / 2 ^ 64 = 0 := Nat.div_eq_of_lt ha
    have : ((a / 2 ^ 64 : Nat) : Int) = (a : Int) / 2 ^ 64 := by simp
    rw [Int.toNat_natCast, e1, ← this, e2]
theorem fits_f {v w : Int} (h0 : 0 ≤ v) (h1 : v < 18446744073709551616) (hw0 : 0 ≤ w) (hw : w ≤ 64) : bits_fits.f v w = some (decide (v.toNat < 2 ^ w.toNat)) := by
  obtain ⟨n, rfl⟩ := Int.eq_ofNat_of_zero_le hw0
  unfold bits_fits.f
  by_cases c : (n : Int) = 64
  · rw [if_pos c]
    have : n = 64 := by omega
    subst this
    rw [decide_eq_true]; simp; omega
  · rw [if_neg c, u64w_id (by omega) (by omega), if_pos (by omega), shr64 h0 h1]
    congr 1
    rw [Int.toNat_natCast, Bool.eq_iff_iff]
    simp only [beq_iff_eq, decide_eq_true_eq]
    constructor
    · intro h
      have h2 : v.toNat / 2 ^ n = 0 := by omega
      rcases Nat.div_eq_zero_iff.1 h2 with h3 | h3
      · exact absurd h3 (Nat.ne_of_gt (Nat.two_pow_pos n))
      · exact h3
    · intro h
      rw [Nat.div_eq_of_lt h]; rfl
theorem pow8 (q r : Nat) : 2 ^ (8 * q + r) = 256 ^ q * 2 ^ r := by rw [Nat.pow_add, Nat.pow_mul]
theorem pack_step (S v q r take : Nat) (hr : r < 8) (ht : take ≤ 8 - r) (hc : take = 8 - r ∨ v < 2 ^ take) :
    S + 256 ^ q * (v * 2 ^ r % 256) + (v / 2 ^ take) * 2 ^ (8 * q + r + take) = S + v * 2 ^ (8 * q + r) := by
  rw [show 8 * q + r + take = 8 * q + (r + take) by omega, pow8, pow8]
  have key : v * 2 ^ r % 256 + (v / 2 ^ take) * 2 ^ (r + take) = v * 2 ^ r := by
    rcases hc with h | h
    · subst h
      have e : r + (8 - r) = 8 := by omega
      rw [e]
      have e2 : v * 2 ^ r / 256 = v / 2 ^ (8 - r) := by
        have : (256 : Nat) = 2 ^ (8 - r) * 2 ^ r := by rw [← Nat.pow_add, show 8 - r + r = 8 by omega]
        rw [this, Nat.mul_div_mul_right _ _ (Nat.two_pow_pos r)]
      rw [← e2]
      have := Nat.mod_add_div (v * 2 ^ r) 256
      omega
    · have e : v / 2 ^ take = 0 := Nat.div_eq_of_lt h
      rw [e, Nat.zero_mul, Nat.add_zero]
      apply Nat.mod_eq_of_lt
      have h1 : v * 2 ^ r < 2 ^ take * 2 ^ r := Nat.mul_lt_mul_of_pos_right h (Nat.two_pow_pos r)
      rw [← Nat.pow_add] at h1
      have h2 : 2 ^ (take + r) ≤ 2 ^ 8 := Nat.pow_le_pow_right (by decide) (by omega)
      omega
  have : (v / 2 ^ take) * (256 ^ q * 2 ^ (r + take)) = 256 ^ q * ((v / 2 ^ take) * 2 ^ (r + take)) := by rw [← Nat.mul_assoc, Nat.mul_comm (v / 2 ^ take), Nat.mul_assoc]
  rw [this, Nat.add_assoc, ← Nat.mul_add, key, ← Nat.mul_assoc, Nat.mul_comm (256 ^ q) v, Nat.mul_assoc]
theorem or_u8 {a b : Int} {r : Nat} (hr : r < 8) (ha0 : 0 ≤ a) (ha : a.toNat < 2 ^ r) (hb0 : 0 ≤ b) (hb : b < 256) (hd : b.toNat % 2 ^ r = 0) : bits .or .u8 a b = a + b := by
  obtain ⟨m, rfl⟩ := Int.eq_ofNat_of_zero_le ha0
  obtain ⟨n, rfl⟩ := Int.eq_ofNat_of_zero_le hb0
  simp only [Int.toNat_natCast] at ha hd
  have h8 : 2 ^ r ≤ 2 ^ 8 := Nat.pow_le_pow_right (by decide) (by omega)
  rw [(bits_nat .u8 8 (by decide) wraps_u8 m n (by omega) (by omega)).2, Nat.or_comm]
  have hq : n = 2 ^ r * (n / 2 ^ r) := by have := Nat.div_add_mod n (2 ^ r); omega
  rw [hq, ← Nat.two_pow_add_eq_or_of_lt ha (n / 2 ^ r), Int.natCast_add]; omega
theorem shl8 {x : Int} {r : Nat} (h0 : 0 ≤ x) (hr : r < 8) : shl .u8 (x % 256) r = ((x.toNat * 2 ^ r % 256 : Nat) : Int) := by
  obtain ⟨a, rfl⟩ := Int.eq_ofNat_of_zero_le h0
  unfold shl
  have hb : IntKind.u8.bits = 8 := rfl
  rw [hb, Int.toNat_natCast, Nat.min_eq_left (by omega), IntKind.wrap_u8]
  rw [Int.toNat_natCast, Int.mul_emod, Int.emod_emod, ← Int.mul_emod]; simp

theorem pack_byte (out : List Int) (q r v take : Nat) (hr : r < 8) (hqlen : q < out.length) (hb : Bytes out) (hN : leN out < 2 ^ (8 * q + r)) (hcase : take = 8 - r ∨ v < 2 ^ take) :
    ∃ d : Nat, d = v * 2 ^ r % 256 ∧ bits .or .u8 (out[q]) ((d : Nat) : Int) = out[q] + (d : Int) ∧ Bytes (out.set q (out[q] + (d : Int))) ∧ leN (out.set q (out[q] + (d : Int))) = leN out + 256 ^ q * d ∧ leN (out.set q (out[q] + (d : Int))) < 2 ^ (8 * q + r + take) := by
      have hbq := hb out[q] (List.getElem_mem hqlen)
      -- the byte that is turned
      have hat := leN_at out q hqlen hb
      have hsmall : (out[q]).toNat < 2 ^ r := by
        rw [hat]
        have : leN out / 256 ^ q < 2 ^ r := by
          rw [Nat.div_lt_iff_lt_mul (Nat.pow_pos (by decide)), Nat.mul_comm, ← pow8]; exact hN
        exact Nat.lt_of_le_of_lt (Nat.mod_le _ _) this
      have hd0 : v * 2 ^ r % 256 % 2 ^ r = 0 := by
        have : (256 : Nat) = 2 ^ r * 2 ^ (8 - r) := by rw [← Nat.pow_add, show r + (8 - r) = 8 by omega]
        rw [this, Nat.mod_mul_right_mod, Nat.mul_mod_left]
      obtain ⟨d, hd⟩ : ∃ d : Nat, d = v * 2 ^ r % 256 := ⟨_, rfl⟩
      have hd256 : d < 256 := by rw [hd]; exact Nat.mod_lt _ (by decide)
      have hor : bits .or .u8 (out[q]) ((d : Nat) : Int) = out[q] + (d : Int) := by
        refine or_u8 hr hbq.1 hsmall (by omega) (by omega) ?_
        rw [Int.toNat_natCast, hd]; exact hd0
      have hsum : out[q] + (d : Int) < 256 := by
        have h1 : (out[q]).toNat < 2 ^ r := hsmall
        have h2 : d = 2 ^ r * (d / 2 ^ r) := by have := Nat.div_add_mod d (2 ^ r); rw [← hd] at hd0; omega
        have h3 : d / 2 ^ r < 2 ^ (8 - r) := by
          rw [Nat.div_lt_iff_lt_mul (Nat.two_pow_pos r), ← Nat.pow_add, show 8 - r + r = 8 by omega]; exact hd256
        have h4 : 2 ^ r * (d / 2 ^ r + 1) ≤ 2 ^ r * 2 ^ (8 - r) := Nat.mul_le_mul_left _ h3
        rw [← Nat.pow_add, show r + (8 - r) = 8 by omega, Nat.mul_add, Nat.mul_one, ← h2] at h4
        omega
      have hset : leN (out.set q (out[q] + (d : Int))) = leN out + 256 ^ q * d := by
        have := leN_set out q (out[q] + (d : Int)) (d : Int) hqlen hbq.1 (by omega) rfl
        rw [Int.toNat_natCast] at this; exact this
      have hbytes : Bytes (out.set q (out[q] + (d : Int))) := by
        intro x hx
        rcases List.mem_or_eq_of_mem_set hx with h | h
        · exact hb x h
        · omega
      have hNew : leN (out.set q (out[q] + (d : Int))) < 2 ^ (8 * q + r + take) := by
        rw [hset, show 8 * q + r + take = 8 * q + (r + take) by omega, pow8]
        have h1 : leN out < 256 ^ q * 2 ^ r := by rw [← pow8]; exact hN
        have h2 : d + 2 ^ r ≤ 2 ^ (r + take) := by
          have g2 : d = 2 ^ r * (d / 2 ^ r) := by have := Nat.div_add_mod d (2 ^ r); rw [← hd] at hd0; omega
          have g3 : d / 2 ^ r < 2 ^ take := by
            rcases hcase with hc | hc
            · rw [hc, Nat.div_lt_iff_lt_mul (Nat.two_pow_pos r), ← Nat.pow_add, show 8 - r + r = 8 by omega]; exact hd256
            · have : d ≤ v * 2 ^ r := by rw [hd]; exact Nat.mod_le _ _
              rw [Nat.div_lt_iff_lt_mul (Nat.two_pow_pos r)]
              exact Nat.lt_of_le_of_lt this (Nat.mul_lt_mul_of_pos_right hc (Nat.two_pow_pos r))
          have g4 : 2 ^ r * (d / 2 ^ r + 1) ≤ 2 ^ r * 2 ^ take := Nat.mul_le_mul_left _ g3
          rw [← Nat.pow_add, Nat.mul_add, Nat.mul_one, ← g2] at g4
          exact g4
        have h3 : 256 ^ q * (d + 2 ^ r) ≤ 256 ^ q * 2 ^ (r + take) := Nat.mul_le_mul_left _ h2
        rw [Nat.mul_add] at h3
        omega
      exact ⟨d, hd, hor, hbytes, hset, hNew⟩

theorem n64 {v : Nat} (h : v < 18446744073709551616) : (v : Int) < 18446744073709551616 := by omega
theorem pk_q {q r left ol : Nat} (hlen : 8 * q + r + left ≤ 8 * ol) (hol : ol < 10000000) : q < 10000000 := by omega
theorem pk_ql {q r left ol : Nat} (hlen : 8 * q + r + left ≤ 8 * ol) (hz : ¬ left = 0) : q < ol := by omega
theorem pk_case {r left take : Nat} (h : take = min (8 - r) left) : take = 8 - r ∨ take = left := by omega
theorem pk_tl {r left take : Nat} (h : take = min (8 - r) left) : take ≤ left ∧ take ≤ 8 - r := by omega
theorem pk_e1 (q r : Nat) (hr : r < 8) (hq : q < 100000000) : wrap64 (Int.tdiv ((8 * q + r : Nat) : Int) 8) = (q : Int) := by
  have h : Int.tdiv ((8 * q + r : Nat) : Int) 8 = (q : Int) := by
    rw [Int.tdiv_eq_ediv_of_nonneg (Int.natCast_nonneg _)]; omega
  rw [h, w64 (by omega) (by omega)]
theorem pk_e2 (q r : Nat) (hr : r < 8) : Int.tmod ((8 * q + r : Nat) : Int) 8 = (r : Int) := by
  rw [Int.tmod_eq_emod_of_nonneg (Int.natCast_nonneg _)]; omega
theorem pk_e3 (r left take : Nat) (hr : r < 8) (h : take = min (8 - r) left) : mn (wrap64 (8 - (r : Int))) (left : Int) = (take : Int) := by
  rw [w64 (by omega) (by omega)]; unfold mn; split <;> omega
theorem pk_small (q r left take m q' r' ol : Nat) (hr : r < 8) (hq : q < 10000000) (hm : left ≤ m + 1) (h64 : left ≤ 64) (htk : take = min (8 - r) left) (hz : ¬ left = 0) (hqr : 8 * q + r + take = 8 * q' + r') (hr' : r' < 8) (hlen : 8 * q + r + left ≤ 8 * ol) (hol : ol < 10000000) :
    left - take ≤ m ∧ left - take ≤ 64 ∧ q' ≤ ol ∧ 8 * q' + r' + (left - take) ≤ 8 * ol ∧ 8 * q' + r' + (left - take) = 8 * q + r + left ∧ (left : Int) > 0 ∧ 0 ≤ (q : Int) ∧ (q : Int) < (ol : Int) ∧ IntKind.u64.wrap (r : Int) = (r : Int) ∧ 0 ≤ (r : Int) ∧ IntKind.u64.wrap (take : Int) = (take : Int) ∧ 0 ≤ (take : Int) ∧
    wrap64 (((8 * q + r : Nat) : Int) + (take : Int)) = ((8 * q' + r' : Nat) : Int) ∧ wrap64 ((left : Int) - (take : Int)) = ((left - take : Nat) : Int) := by
  refine ⟨by omega, by omega, by omega, by omega, by omega, by omega, by omega, by omega, u64w_id (by omega) (by omega), by omega, u64w_id (by omega) (by omega), by omega, ?_, ?_⟩
  · rw [w64 (by omega) (by omega)]; omega
  · rw [w64 (by omega) (by omega)]; omega
theorem pack_l1 (w : Int) (L : List Int) (n i : Int) : ∀ (m left : Nat) (out : List Int) (q r : Nat) (v : Nat), left ≤ m → left ≤ 64 → r < 8 → out.length < 10000000 → v < 2 ^ left → v < 18446744073709551616 → Bytes out → leN out < 2 ^ (8 * q + r) → 8 * q + r + left ≤ 8 * out.length →
    ∃ out', Bytes out' ∧ out'.length = out.length ∧ leN out' = leN out + v * 2 ^ (8 * q + r) ∧ ∀ res, Ev (fun k => bits_Pack.l0 k w out' ((8 * q + r + left : Nat) : Int) L n (wrap64 (i + 1))) res → Ev (fun k => bits_Pack.l1 k w out ((8 * q + r : Nat) : Int) v left L n i) res := by
  intro m
  induction m with
  | zero =>
    intro left out q r v hm h64 hr hol hv hv64 hb hN hlen
    have hl : left = 0 := by omega
    subst hl
    have hv0 : v = 0 := by simpa using hv
    subst hv0
    refine ⟨out, hb, rfl, by simp, ?_⟩
    intro res h
    refine Ev.step (f := fun k => bits_Pack.l0 k w out ((8 * q + r + 0 : Nat) : Int) L n (wrap64 (i + 1))) (fun k => ?_) h
    simp only [bits_Pack.l1]
    rw [if_neg (by omega), Nat.add_zero]
  | succ m ih =>
    intro left out q r v hm h64 hr hol hv hv64 hb hN hlen
    by_cases hz : left = 0
    · subst hz
      have hv0 : v = 0 := by simpa using hv
      subst hv0
      refine ⟨out, hb, rfl, by simp, ?_⟩
      intro res h
      refine Ev.step (f := fun k => bits_Pack.l0 k w out ((8 * q + r + 0 : Nat) : Int) L n (wrap64 (i + 1))) (fun k => ?_) h
      simp only [bits_Pack.l1]
      rw [if_neg (by omega), Nat.add_zero]
    · obtain ⟨take, htk⟩ : ∃ t, t = min (8 - r) left := ⟨_, rfl⟩
      obtain ⟨htl, ht8⟩ := pk_tl htk
      have hqlen : q < out.length := pk_ql hlen hz
      have hbq := hb out[q] (List.getElem_mem hqlen)
      have e1 := pk_e1 q r hr (Nat.lt_trans (pk_q hlen hol) (by decide))
      have e2 := pk_e2 q r hr
      have e3 := pk_e3 r left take hr htk
      obtain ⟨q', r', hqr, hr'⟩ : ∃ q' r', 8 * q + r + take = 8 * q' + r' ∧ r' < 8 := ⟨(8 * q + r + take) / 8, (8 * q + r + take) % 8, (Nat.div_add_mod _ 8).symm, Nat.mod_lt _ (by decide)⟩
      obtain ⟨g1, g2, g3, g4, g5, p1, p2, p3, p4, p5, p6, p7, t1, t2⟩ := pk_small q r left take m q' r' out.length hr (pk_q hlen hol) hm h64 htk hz hqr hr' hlen hol
      have hcase : take = 8 - r ∨ v < 2 ^ take := (pk_case htk).imp id (fun h => by rw [h]; exact hv)
      obtain ⟨d, hd, hor, hbytes, hset, hNew⟩ := pack_byte out q r v take hr hqlen hb hN hcase
      have hstep := pack_step (leN out) v q r take hr ht8 hcase
      have hvdiv : v / 2 ^ take < 2 ^ (left - take) := by
        rw [Nat.div_lt_iff_lt_mul (Nat.two_pow_pos take), ← Nat.pow_add, Nat.sub_add_cancel htl]; exact hv
      obtain ⟨out', hb', hl', hN', hgo⟩ := ih (left - take) (out.set q (out[q] + (d : Int))) q' r' (v / 2 ^ take) g1 g2 hr' (by rw [List.length_set]; exact hol) hvdiv (Nat.lt_of_le_of_lt (Nat.div_le_self _ _) hv64) hbytes (by rw [← hqr]; exact hNew) (by rw [List.length_set]; exact g4)
      refine ⟨out', hb', by rw [hl', List.length_set], ?_, ?_⟩
      · rw [hN', hset, ← hqr, hd]; exact hstep
      · intro res h
        refine Ev.step (fun k => ?_) (hgo res (by rw [g5]; exact h))
        simp only [bits_Pack.l1]
        rw [if_pos p1, e1, if_pos p2, if_pos p3, e2, p4, if_pos p5, e3, p6, if_pos p7]
        have s2 : shl .u8 ((v : Int) % 256) (r : Int) = ((d : Nat) : Int) := by rw [shl8 (Int.natCast_nonneg _) hr, Int.toNat_natCast, hd]
        have s3 : shr .u64 (v : Int) (take : Int) = ((v / 2 ^ take : Nat) : Int) := by rw [shr64 (Int.natCast_nonneg _) (n64 hv64), Int.toNat_natCast]
        rw [rd_get hqlen, s2, s3, hor, Int.toNat_natCast, t1, t2]

theorem pack_l0 (w : Nat) (hw : w ≤ 64) (L : List Int) (hn : L.length ≤ 65536) (hL : ∀ x ∈ L, 0 ≤ x ∧ x < 18446744073709551616 ∧ x.toNat < 2 ^ w) :
    ∀ (d i : Nat) (out : List Int), L.length = i + d → out.length < 10000000 → Bytes out → leN out = numN w (L.take i) → w * L.length ≤ 8 * out.length →
      Ev (fun k => bits_Pack.l0 k w out ((w * i : Nat) : Int) L L.length i) (digs out.length (numN w L), 0) := by
  intro d
  induction d with
  | zero =>
    intro i out hd hol hb hN hlen
    refine Ev.step (f := fun _ => some (digs out.length (numN w L), 0)) (fun k => ?_) (Ev.now _)
    simp only [bits_Pack.l0]
    rw [if_neg (by omega)]
    have : L.take i = L := List.take_of_length_le (by omega)
    rw [this] at hN
    rw [← hN, digs_leN out hb]
  | succ d ih =>
    intro i out hd hol hb hN hlen
    have hx := hL L[i] (List.getElem_mem (by omega))
    have hwi : w * i ≤ 64 * 65536 := Nat.mul_le_mul hw (by omega)
    have hlt : leN out < 2 ^ (w * i) := by
      rw [hN]
      have := numN_lt w (L.take i) (fun x hx => (hL x (List.mem_of_mem_take hx)).2.2)
      rw [List.length_take, Nat.min_eq_left (by omega)] at this; exact this
    have hqr : w * i = 8 * (w * i / 8) + w * i % 8 := by omega
    have hsum : w * i + w ≤ w * L.length := by
      have : w * (i + 1) ≤ w * L.length := Nat.mul_le_mul_left _ (by omega)
      rw [Nat.mul_add, Nat.mul_one] at this; exact this
    obtain ⟨out', hb', hl', hN', hgo⟩ := pack_l1 (w : Int) L L.length i w w out (w * i / 8) (w * i % 8) (L[i]).toNat (Nat.le_refl _) hw (Nat.mod_lt _ (by decide)) hol hx.2.2 (by omega) hb (by rw [← hqr]; exact hlt) (by rw [← hqr]; omega)
    rw [← hqr] at hN' hgo
    have htake : L.take (i + 1) = L.take i ++ [L[i]] := by rw [List.take_succ_eq_append_getElem (by omega)]
    have hrec := ih (i + 1) out' (by omega) (by rw [hl']; exact hol) hb' (by
      rw [hN', htake, numN_append, List.length_take, Nat.min_eq_left (by omega), hN]
      simp only [numN, Nat.mul_zero, Nat.add_zero]; rw [Nat.mul_comm (L[i]).toNat]) (by rw [hl']; exact hlen)
    rw [hl'] at hrec
    refine Ev.step (fun k => ?_) (hgo _ (by
      rw [w64 (by omega) (by omega)]
      have e1 : w * (i + 1) = w * i + w := by rw [Nat.mul_add, Nat.mul_one]
      rw [e1] at hrec
      simp only [Int.natCast_add, Int.natCast_one] at hrec ⊢
      exact hrec))
    simp only [bits_Pack.l0]
    rw [if_pos (by omega), if_pos (by omega), if_pos (by omega), rd_get (by omega), fits_f hx.1 hx.2.1 (by omega) (by omega), Option.bind_some, Int.toNat_natCast, decide_eq_true hx.2.2, if_pos rfl, Int.toNat_of_nonneg hx.1]
/-- a number that doesn't fit -/
theorem pack_l0_bad (w : Nat) (hw : w ≤ 64) (L : List Int) (hn : L.length ≤ 65536) (hL : ∀ x ∈ L, 0 ≤ x ∧ x < 18446744073709551616) :
    ∀ (d i : Nat) (out : List Int), L.length = i + d → (∃ x ∈ L.drop i, ¬ x.toNat < 2 ^ w) → (∀ x ∈ L.take i, x.toNat < 2 ^ w) → out.length < 10000000 → Bytes out → leN out = numN w (L.take i) → w * L.length ≤ 8 * out.length →
      Ev (fun k => bits_Pack.l0 k w out ((w * i : Nat) : Int) L L.length i) ([], 5) := by
  intro d
  induction d with
  | zero =>
    intro i out hd hbad _ _ hb hN hlen
    obtain ⟨x, hx, _⟩ := hbad
    rw [List.drop_of_length_le (by omega)] at hx; simp at hx
  | succ d ih =>
    intro i out hd hbad hgood hol hb hN hlen
    have hx := hL L[i] (List.getElem_mem (by omega))
    by_cases hf : (L[i]).toNat < 2 ^ w
    · have hwi : w * i ≤ 64 * 65536 := Nat.mul_le_mul hw (by omega)
      have hlt : leN out < 2 ^ (w * i) := by
        rw [hN]
        have := numN_lt w (L.take i) hgood
        rw [List.length_take, Nat.min_eq_left (by omega)] at this; exact this
      have hqr : w * i = 8 * (w * i / 8) + w * i % 8 := by omega
      have hsum : w * i + w ≤ w * L.length := by
        have : w * (i + 1) ≤ w * L.length := Nat.mul_le_mul_left _ (by omega)
        rw [Nat.mul_add, Nat.mul_one] at this; exact this
      obtain ⟨out', hb', hl', hN', hgo⟩ := pack_l1 (w : Int) L L.length i w w out (w * i / 8) (w * i % 8) (L[i]).toNat (Nat.le_refl _) hw (Nat.mod_lt _ (by decide)) hol hf (by omega) hb (by rw [← hqr]; exact hlt) (by rw [← hqr]; omega)
      rw [← hqr] at hN' hgo
      have htake : L.take (i + 1) = L.take i ++ [L[i]] := by rw [List.take_succ_eq_append_getElem (by omega)]
      have hrec := ih (i + 1) out' (by omega) (by
          obtain ⟨x, hxd, hxx⟩ := hbad
          have hxd' : x ∈ L[i] :: L.drop (i + 1) := by rw [← dropc L i (by omega)]; exact hxd
          rcases List.mem_cons.1 hxd' with e | h
          · exact absurd (by rw [e]; exact hf) hxx
          · exact ⟨x, h, hxx⟩) (by
          intro x hx
          rw [htake] at hx
          rcases List.mem_append.1 hx with hx | hx
          · exact hgood x hx
          · simp at hx; rw [hx]; exact hf) (by rw [hl']; exact hol) hb' (by
        rw [hN', htake, numN_append, List.length_take, Nat.min_eq_left (by omega), hN]
        simp only [numN, Nat.mul_zero, Nat.add_zero]; rw [Nat.mul_comm (L[i]).toNat]) (by rw [hl']; exact hlen)
      refine Ev.step (fun k => ?_) (hgo _ (by
        rw [w64 (by omega) (by omega)]
        have e1 : w * (i + 1) = w * i + w := by rw [Nat.mul_add, Nat.mul_one]
        rw [e1] at hrec
        simp only [Int.natCast_add, Int.natCast_one] at hrec ⊢
        exact hrec))
      simp only [bits_Pack.l0]
      rw [if_pos (by omega), if_pos (by omega), if_pos (by omega), rd_get (by omega), fits_f hx.1 hx.2 (by omega) (by omega), Option.bind_some, Int.toNat_natCast, decide_eq_true hf, if_pos rfl, Int.toNat_of_nonneg hx.1]
    · refine Ev.step (f := fun _ => some ([], 5)) (fun k => ?_) (Ev.now _)
      simp only [bits_Pack.l0]
      rw [if_pos (by omega), if_pos (by omega), if_pos (by omega), rd_get (by omega), fits_f hx.1 hx.2 (by omega) (by omega), Option.bind_some, Int.toNat_natCast, decide_eq_false hf, if_neg (by decide)]
def fitAll (L : List Int) (w : Nat) : Prop := ∀ x ∈ L, x.toNat < 2 ^ w
instance (L : List Int) (w : Nat) : Decidable (fitAll L w) := inferInstanceAs (Decidable (∀ x ∈ L, x.toNat < 2 ^ w))
def packed (L : List Int) (w : Int) : List Int × Int :=
  if okSize L.length w then (if fitAll L w.toNat then (digs (sizeN L.length w.toNat) (numN w.toNat L), 0) else ([], 5)) else ([], 1)
theorem bytes_zeros (n : Nat) : Bytes (List.replicate n 0) := by intro x hx; rw [(List.mem_replicate.1 hx).2]; decide
theorem pack_f (L : List Int) (w : Int) (hL : ∀ x ∈ L, 0 ≤ x ∧ x < 18446744073709551616) : Ev (fun k => bits_Pack.f k L w) (packed L w) := by
  unfold bits_Pack.f packed
  by_cases ho : okSize L.length w
  · obtain ⟨h1, h2, h3, h4⟩ := id ho
    obtain ⟨m, rfl⟩ := Int.eq_ofNat_of_zero_le h3
    rw [if_pos ho]
    have hs : sizeN L.length m < 10000000 := by
      unfold sizeN
      have : L.length * m ≤ 65536 * 64 := Nat.mul_le_mul (by omega) (by omega)
      omega
    have hle : m * L.length ≤ 8 * sizeN L.length m := by unfold sizeN; rw [Nat.mul_comm m]; omega
    refine Ev.congr (f := fun k => bits_Pack.l0 k m (List.replicate (sizeN L.length m) 0) ((m * 0 : Nat) : Int) L L.length ((0 : Nat) : Int)) (fun k => ?_) ?_
    · rw [size_f, if_pos ho, Option.bind_some, Int.toNat_natCast, if_neg (by omega)]
      simp only [Int.toNat_natCast]
      rw [if_pos (by omega), if_pos (by omega)]; rfl
    · by_cases hf : fitAll L m
      · rw [Int.toNat_natCast, if_pos hf]
        have := pack_l0 m (by omega) L (by omega) (fun x hx => ⟨(hL x hx).1, (hL x hx).2, hf x hx⟩) L.length 0 (List.replicate (sizeN L.length m) 0) (by omega) (by rw [List.length_replicate]; exact hs) (bytes_zeros _) (by simp [leN_zeros, numN]) (by simpa using hle)
        rw [List.length_replicate] at this; exact this
      · rw [Int.toNat_natCast, if_neg hf]
        unfold fitAll at hf
        refine pack_l0_bad m (by omega) L (by omega) hL L.length 0 _ (by omega) ?_ (by simp) (by rw [List.length_replicate]; exact hs) (bytes_zeros _) (by simp [leN_zeros, numN]) (by simpa using hle)
        have hf := Classical.not_forall.1 hf
        obtain ⟨x, hx⟩ := hf
        have hx := Classical.not_imp.1 hx
        exact ⟨x, by simpa using hx.1, hx.2⟩
  · rw [if_neg ho]
    refine Ev.congr (f := fun _ => some ([], 1)) (fun k => ?_) (Ev.now _)
    rw [size_f, if_neg ho, Option.bind_some, if_pos (by decide)]

/-! math/bits.Len64, by the library's contract -/
theorem bitlen_le {v : Nat} (h : v < 18446744073709551616) : Lib.bitLen v ≤ 64 := Lib.bitLen_le v 64 (by decide) (by simpa using h)

/-! bits of numbers below powers -/
def orAll (L : List Int) : Nat := L.foldl (fun a x => a ||| x.toNat) 0
def maxW (L : List Int) : Nat := L.foldl (fun a x => max a (Lib.bitLen x.toNat)) 0
theorem pk_no (a b : Nat) : ¬ a + (1 + b) ≤ a := by omega
theorem bitlen_lt {v k : Nat} (h : Lib.bitLen v ≤ k) (hv : v < 18446744073709551616) : v < 2 ^ k := by
  refine Classical.byContradiction fun hc => ?_
  have hk : k ≤ 64 ∨ 64 < k := by omega
  rcases hk with hk | hk
  · have := Lib.bitLen_shift k v (Nat.le_of_not_lt hc) (Nat.lt_of_lt_of_eq hv (by decide))
    have hpos : 1 ≤ v / 2 ^ k := by rw [Nat.le_div_iff_mul_le (Nat.two_pow_pos k), Nat.one_mul]; exact Nat.le_of_not_lt hc
    have h2 : v / 2 ^ k < 2 ^ 64 := Nat.lt_of_le_of_lt (Nat.div_le_self _ _) (Nat.lt_of_lt_of_eq hv (by decide))
    have h3 := Lib.bitLen_half (v / 2 ^ k) (Nat.ne_of_gt hpos) h2
    rw [this, h3] at h
    exact absurd h (pk_no _ _)
  · exact hc (Nat.lt_of_lt_of_le (Nat.lt_of_lt_of_eq hv (by decide : (18446744073709551616 : Nat) = 2 ^ 64)) (Nat.pow_le_pow_right (by decide) (Nat.le_of_lt hk)))
theorem bitlen_iff {v k : Nat} (hv : v < 18446744073709551616) (hk : k ≤ 64) : Lib.bitLen v ≤ k ↔ v < 2 ^ k :=
  ⟨fun h => bitlen_lt h hv, fun h => Lib.bitLen_le v k hk h⟩
theorem bitlen_or {a b : Nat} (ha : a < 18446744073709551616) (hb : b < 18446744073709551616) : Lib.bitLen (a ||| b) = max (Lib.bitLen a) (Lib.bitLen b) := by
  have p64 : (18446744073709551616 : Nat) = 2 ^ 64 := by decide
  have hab : a ||| b < 18446744073709551616 := by rw [p64] at *; exact Nat.or_lt_two_pow ha hb
  apply Nat.le_antisymm
  · have hm : max (Lib.bitLen a) (Lib.bitLen b) ≤ 64 := Nat.max_le.2 ⟨bitlen_le ha, bitlen_le hb⟩
    rw [bitlen_iff hab hm]
    exact Nat.or_lt_two_pow (Nat.lt_of_lt_of_le (bitlen_lt (Nat.le_refl _) ha) (Nat.pow_le_pow_right (by decide) (Nat.le_max_left _ _))) (Nat.lt_of_lt_of_le (bitlen_lt (Nat.le_refl _) hb) (Nat.pow_le_pow_right (by decide) (Nat.le_max_right _ _)))
  · have h := bitlen_lt (Nat.le_refl (Lib.bitLen (a ||| b))) hab
    refine Nat.max_le.2 ⟨(bitlen_iff ha (bitlen_le hab)).2 ?_, (bitlen_iff hb (bitlen_le hab)).2 ?_⟩
    · exact Nat.lt_of_le_of_lt Nat.left_le_or h
    · exact Nat.lt_of_le_of_lt Nat.right_le_or h
theorem bitlen_zero : Lib.bitLen 0 = 0 := by decide
theorem maxW_ge : ∀ (L : List Int) (a : Nat), a ≤ L.foldl (fun m x => max m (Lib.bitLen x.toNat)) a := by
  intro L; induction L with
  | nil => intro a; exact Nat.le_refl _
  | cons x L ih => intro a; exact Nat.le_trans (Nat.le_max_left _ _) (ih _)
theorem maxW_le : ∀ (L : List Int) (a w : Nat), L.foldl (fun m x => max m (Lib.bitLen x.toNat)) a ≤ w ↔ a ≤ w ∧ ∀ x ∈ L, Lib.bitLen x.toNat ≤ w := by
  intro L; induction L with
  | nil => intro a w; simp
  | cons x L ih => intro a w; rw [List.foldl_cons, ih, Nat.max_le]; simp [and_assoc]
theorem maxW_fit (L : List Int) (w : Nat) (hw : w ≤ 64) (hL : ∀ x ∈ L, 0 ≤ x ∧ x < 18446744073709551616) : maxW L ≤ w ↔ fitAll L w := by
  unfold maxW fitAll
  rw [maxW_le]
  constructor
  · intro h x hx; exact bitlen_lt (h.2 x hx) (by have := hL x hx; omega)
  · intro h; exact ⟨Nat.zero_le _, fun x hx => (bitlen_iff (by have := hL x hx; omega) hw).2 (h x hx)⟩
theorem maxW_64 (L : List Int) (hL : ∀ x ∈ L, 0 ≤ x ∧ x < 18446744073709551616) : maxW L ≤ 64 := by
  unfold maxW
  rw [maxW_le]
  exact ⟨Nat.zero_le _, fun x hx => bitlen_le (by have := hL x hx; omega)⟩

/-! bits.Width: the least width of all -/
theorem len64_s {v : Int} (h0 : 0 ≤ v) (h1 : v < 18446744073709551616) : bits_Len64.f v = some (Lib.bitLen v.toNat : Int) := by unfold bits_Len64.f; rw [if_pos h0, if_pos (by omega)]
theorem width_l0 (L : List Int) (hn : L.length ≤ 65536) (hL : ∀ x ∈ L, 0 ≤ x ∧ x < 18446744073709551616) :
    ∀ (d k i a : Nat), L.length = i + d → d + 1 < k → a < 18446744073709551616 → bits_Width.l0 k a L L.length i = some ((((L.drop i).foldl (fun m x => max m (Lib.bitLen x.toNat)) (Lib.bitLen a) : Nat)) : Int) := by
  intro d
  induction d with
  | zero =>
    intro k i a hd hk ha
    obtain ⟨k, rfl⟩ : ∃ m, k = m + 1 := ⟨k - 1, by omega⟩
    simp only [bits_Width.l0]
    rw [if_neg (by omega), List.drop_of_length_le (by omega), len64_s (by omega) (by omega), Option.bind_some]; simp
  | succ d ih =>
    intro k i a hd hk ha
    obtain ⟨k, rfl⟩ : ∃ m, k = m + 1 := ⟨k - 1, by omega⟩
    simp only [bits_Width.l0]
    have hx := hL L[i] (List.getElem_mem (by omega))
    have hx2 : (L[i]).toNat < 18446744073709551616 := by omega
    have p64 : (18446744073709551616 : Nat) = 2 ^ 64 := by decide
    have hor : bits .or .u64 (a : Int) (L[i]) = ((a ||| (L[i]).toNat : Nat) : Int) := by
      obtain ⟨y, hy⟩ := Int.eq_ofNat_of_zero_le hx.1
      rw [hy, Int.toNat_natCast]
      exact (bits_nat .u64 64 (by decide) wraps_u64 a y (by rw [← p64]; exact ha) (by rw [← p64]; omega)).2
    rw [if_pos (by omega), if_pos (by omega), if_pos (by omega), rd_get (by omega), hor, w64 (by omega) (by omega)]
    have := ih k (i + 1) (a ||| (L[i]).toNat) (by omega) (by omega) (by rw [p64] at *; exact Nat.or_lt_two_pow ha hx2)
    simp only [Int.natCast_add, Int.natCast_one] at this
    rw [this, dropc L i (by omega), List.foldl_cons, bitlen_or ha hx2]
theorem width_f (L : List Int) (hn : L.length ≤ 65536) (hL : ∀ x ∈ L, 0 ≤ x ∧ x < 18446744073709551616) {k : Nat} (hk : L.length + 1 < k) : bits_Width.f k L = some (maxW L : Int) := by
  unfold bits_Width.f maxW
  have := width_l0 L hn hL L.length k 0 0 (by omega) hk (by omega)
  rw [List.drop_zero, bitlen_zero] at this
  exact this

theorem digs_split : ∀ (a b N : Nat), digs (a + b) N = digs a N ++ digs b (N / 256 ^ a) := by
  intro a
  induction a with
  | zero => intro b N; simp [digs]
  | succ a ih =>
    intro b N
    rw [show a + 1 + b = (a + b) + 1 by omega]
    simp only [digs, List.cons_append]
    rw [ih b (N / 256), Nat.div_div_eq_div_mul, Nat.pow_succ, Nat.mul_comm 256]

/-! estreatref02.Width -/
theorem bitlen_half0 (v : Nat) (h0 : v ≠ 0) (h : v < 18446744073709551616) : Lib.bitLen v = 1 + Lib.bitLen (v / 2) := Lib.bitLen_half v h0 (Nat.lt_of_lt_of_eq h (by decide))
theorem refwidth_l1 (L : List Int) (m : Int) (i : Int) : ∀ (v : Nat) (c : Nat), v < 18446744073709551616 → c + Lib.bitLen v ≤ 64 → ∀ res, Ev (fun k => estreatref02_Width.l0 k L (mx m ((c + Lib.bitLen v : Nat) : Int)) (wrap64 (i + 1))) res → Ev (fun k => estreatref02_Width.l1 k L m i c v) res := by
  intro v
  induction v using Nat.strongRecOn with
  | _ v ih =>
    intro c hv hc res h
    by_cases hz : v = 0
    · subst hz
      rw [bitlen_zero, Nat.add_zero] at h
      refine Ev.step (fun k => ?_) h
      simp only [estreatref02_Width.l1]
      rw [if_neg (by omega)]
    · have hb := bitlen_half0 v hz hv
      refine Ev.step (fun k => ?_) (ih (v / 2) (by omega) (c + 1) (by omega) (by omega) res (by rw [show c + 1 + Lib.bitLen (v / 2) = c + Lib.bitLen v by omega]; exact h))
      simp only [estreatref02_Width.l1]
      rw [if_pos (by omega), w64 (by omega) (by omega), Int.tdiv_eq_ediv_of_nonneg (by omega), u64w_id (by omega) (by omega)]
      rfl
theorem mx_nat (a b : Nat) : mx (a : Int) (b : Int) = ((max a b : Nat) : Int) := by unfold mx; split <;> omega
theorem refwidth_l0 (L : List Int) (hn : L.length ≤ 65536) (hL : ∀ x ∈ L, 0 ≤ x ∧ x < 18446744073709551616) :
    ∀ (d i a : Nat), L.length = i + d → Ev (fun k => estreatref02_Width.l0 k L a i) ((((L.drop i).foldl (fun m x => max m (Lib.bitLen x.toNat)) a : Nat)) : Int) := by
  intro d
  induction d with
  | zero =>
    intro i a hd
    refine Ev.step (f := fun _ => some (((L.drop i).foldl (fun m x => max m (Lib.bitLen x.toNat)) a : Nat) : Int)) (fun k => ?_) (Ev.now _)
    simp only [estreatref02_Width.l0]
    rw [if_neg (by omega), List.drop_of_length_le (by omega)]; rfl
  | succ d ih =>
    intro i a hd
    have hx := hL L[i] (List.getElem_mem (by omega))
    have hx2 : (L[i]).toNat < 18446744073709551616 := by omega
    have hb := bitlen_le hx2
    have hr := ih (i + 1) (max a (Lib.bitLen (L[i]).toNat)) (by omega)
    refine Ev.step (fun k => ?_) (refwidth_l1 L a i (L[i]).toNat 0 hx2 (by omega) _ (by
      rw [Nat.zero_add, mx_nat, w64 (by omega) (by omega), dropc L i (by omega), List.foldl_cons]
      simp only [Int.natCast_add, Int.natCast_one] at hr
      exact hr))
    simp only [estreatref02_Width.l0]
    rw [if_pos (by omega), if_pos (by omega), rd_get (by omega), Int.toNat_of_nonneg hx.1]; rfl
theorem refwidth_f (L : List Int) (hn : L.length ≤ 65536) (hL : ∀ x ∈ L, 0 ≤ x ∧ x < 18446744073709551616) : Ev (fun k => estreatref02_Width.f k L) (maxW L : Int) := by
  have := refwidth_l0 L hn hL L.length 0 0 (by omega)
  rw [List.drop_zero] at this
  exact this

/-! estreatref02: Size, bit -/
theorem refsize_j (k : Nat) (n w : Int) (h : okSize n w) : estreatref02_Size.j0 (k + 1) n w false = some ((sizeN n.toNat w.toNat : Nat) : Int) := by
  have hm := mul_le_64 h
  obtain ⟨h1, h2, h3, h4⟩ := h
  rw [estreatref02_Size.j0.eq_2, if_neg (by decide), w64 (n := n * w) (by omega) (by omega), Int.tdiv_eq_ediv_of_nonneg (by omega), w64 (n := n * w / 8) (by omega) (by omega), w64 (n := 8 * (n * w / 8)) (by omega) (by omega)]
  have e : n * w = ((n.toNat * w.toNat : Nat) : Int) := by rw [Int.natCast_mul, Int.toNat_of_nonneg h1, Int.toNat_of_nonneg h3]
  unfold sizeN
  obtain ⟨p, hp⟩ : ∃ p, p = n.toNat * w.toNat := ⟨_, rfl⟩
  rw [e, ← hp] at hm
  rw [e, ← hp]
  by_cases c : 8 * ((p : Int) / 8) < (p : Int)
  · rw [if_pos c, w64 (by omega) (by omega)]; congr 1; omega
  · rw [if_neg c]; congr 1; omega
theorem refsize_f (n w : Int) {k : Nat} (hk : 0 < k) : estreatref02_Size.f k n w = some (if okSize n w then ((sizeN n.toNat w.toNat : Nat) : Int) else -1) := by
  obtain ⟨k, rfl⟩ : ∃ m, k = m + 1 := ⟨k - 1, by omega⟩
  have T : estreatref02_Size.j0 (k + 1) n w true = some (-1) := by rw [estreatref02_Size.j0.eq_2, if_pos rfl]
  unfold estreatref02_Size.f
  by_cases c1 : n < 0
  · rw [if_pos c1, T, if_neg (fun h => by have := h.1; omega)]
  rw [if_neg c1]
  by_cases c2 : n > 65536
  · rw [if_pos c2, T, if_neg (fun h => by have := h.2.1; omega)]
  rw [if_neg c2]
  by_cases c3 : w < 0
  · rw [if_pos c3, T, if_neg (fun h => by have := h.2.2.1; omega)]
  rw [if_neg c3]
  by_cases c4 : w > 64
  · rw [decide_eq_true c4, T, if_neg (fun h => by have := h.2.2.2; omega)]
  · have ho : okSize n w := ⟨by omega, by omega, by omega, by omega⟩
    rw [decide_eq_false c4, refsize_j k n w ho, if_pos ho]
theorem refbit_f {v : Int} {j : Nat} (h0 : 0 ≤ v) (h1 : v < 18446744073709551616) (hj : j < 1000) : estreatref02_bit.f v j = some (v.toNat.testBit j) := by
  unfold estreatref02_bit.f
  rw [u64w_id (by omega) (by omega), if_pos (by omega), shr64 h0 h1]
  congr 1
  rw [Int.tmod_eq_emod_of_nonneg (by exact Int.natCast_nonneg _), Nat.testBit_eq_decide_div_mod_eq, Bool.eq_iff_iff]
  simp only [beq_iff_eq, decide_eq_true_eq]
  constructor
  · intro h; exact_mod_cast h
  · intro h; exact_mod_cast h
theorem horner (N p m : Nat) : 2 * (N / 2 ^ (p + 1) % 2 ^ m) + (N / 2 ^ p) % 2 = N / 2 ^ p % 2 ^ (m + 1) := by
  have e : N / 2 ^ (p + 1) = N / 2 ^ p / 2 := by rw [Nat.pow_succ, Nat.div_div_eq_div_mul]
  rw [e, Nat.pow_succ, Nat.mul_comm (2 ^ m) 2, Nat.mod_mul]
  omega
theorem mod_one_or (x : Nat) (h : ¬ x % 2 = 1) : x % 2 = 0 := by omega

/-! estreatref02.Pack -/
def bitsN (n N : Nat) : List Bool := (List.range n).map (fun i => N.testBit i)
theorem bitsN_length (n N : Nat) : (bitsN n N).length = n := by simp [bitsN]
theorem bitsN_succ (n N : Nat) : bitsN (n + 1) N = bitsN n N ++ [N.testBit n] := by simp [bitsN, List.range_succ]
theorem numN_bit (w : Nat) : ∀ (L : List Int) (i j : Nat) (h : i < L.length), (∀ x ∈ L, x.toNat < 2 ^ w) → j < w → (numN w L).testBit (w * i + j) = (L[i]).toNat.testBit j := by
  intro L
  induction L with
  | nil => intro i j h; simp at h
  | cons x L ih =>
    intro i j h hf hj
    have hx := hf x (by simp)
    cases i with
    | zero =>
      simp only [numN, Nat.mul_zero, Nat.zero_add, List.getElem_cons_zero]
      rw [Nat.add_comm, Nat.testBit_two_pow_mul_add _ hx, if_pos hj]
    | succ i =>
      simp only [numN, List.getElem_cons_succ]
      have e : w * (i + 1) + j = (w * i + j) + w := by rw [Nat.mul_add, Nat.mul_one]; omega
      rw [Nat.add_comm, Nat.testBit_two_pow_mul_add _ hx, e, if_neg (by omega), Nat.add_sub_cancel]
      exact ih i j (by simpa using h) (fun y hy => hf y (by simp [hy])) hj
theorem refpack_l1 (w : Nat) (hw : w ≤ 64) (L : List Int) (hn : L.length ≤ 65536) (hL : ∀ x ∈ L, 0 ≤ x ∧ x < 18446744073709551616) (hf : ∀ x ∈ L, x.toNat < 2 ^ w) (s : Int) (i : Nat) (hi : i < L.length) :
    ∀ (d j : Nat), w = j + d → ∀ res, Ev (fun k => estreatref02_Pack.l0 k L w s (bitsN (w * (i + 1)) (numN w L)) (wrap64 (i + 1))) res → Ev (fun k => estreatref02_Pack.l1 k L w s (bitsN (w * i + j) (numN w L)) i j) res := by
  intro d
  have hx := hL L[i] (List.getElem_mem hi)
  have hwi : w * i ≤ 64 * 65536 := Nat.mul_le_mul hw (by omega)
  induction d with
  | zero =>
    intro j hd res h
    have : j = w := by omega
    subst this
    rw [Nat.mul_add, Nat.mul_one] at h
    refine Ev.step (fun k => ?_) h
    simp only [estreatref02_Pack.l1]
    rw [if_neg (by omega)]
  | succ d ih =>
    intro j hd res h
    refine Ev.step (fun k => ?_) (ih (j + 1) (by omega) res h)
    simp only [estreatref02_Pack.l1]
    rw [if_pos (by omega), if_pos (by omega), if_pos (by omega), rd_get hi, refbit_f hx.1 hx.2 (by omega), Option.bind_some, bitsN_length, if_pos (by omega), w64 (by omega) (by omega), ← numN_bit w L i j hi hf (by omega), ← bitsN_succ]
    rfl
theorem refpack_l0 (w : Nat) (hw : w ≤ 64) (L : List Int) (hn : L.length ≤ 65536) (hL : ∀ x ∈ L, 0 ≤ x ∧ x < 18446744073709551616) (hf : ∀ x ∈ L, x.toNat < 2 ^ w) (s : Int) :
    ∀ (d i : Nat), L.length = i + d → ∀ res, Ev (fun k => estreatref02_Pack.l2 k s (bitsN (w * L.length) (numN w L)) [] 0) res → Ev (fun k => estreatref02_Pack.l0 k L w s (bitsN (w * i) (numN w L)) i) res := by
  intro d
  induction d with
  | zero =>
    intro i hd res h
    have : i = L.length := by omega
    subst this
    refine Ev.step (fun k => ?_) h
    simp only [estreatref02_Pack.l0]
    rw [if_neg (by omega)]
  | succ d ih =>
    intro i hd res h
    refine Ev.step (fun k => ?_) (refpack_l1 w hw L hn hL hf s i (by omega) w 0 (by omega) res (by rw [w64 (by omega) (by omega)]; exact ih (i + 1) (by omega) res h))
    simp only [estreatref02_Pack.l0]
    rw [if_pos (by omega)]; rfl
theorem rdOf_bits (n N i : Nat) (h : i < n) : rdOf false (bitsN n N) (i : Int) = N.testBit i := by
  unfold rdOf bitsN; simp [List.getD, h]
theorem l3_e1 (t : Nat) : ((t + 1 : Nat) : Int) - 1 = (t : Int) := by omega
theorem l3_e2 (q t : Nat) (hq : q < 10000000) (ht : t < 9) : wrap64 (wrap64 (8 * (q : Int)) + (t : Int)) = ((8 * q + t : Nat) : Int) := by
  rw [w64 (n := 8 * (q : Int)) (by omega) (by omega), w64 (by omega) (by omega)]; omega
theorem l3_e3 (t : Nat) (ht : t < 9) : wrap64 ((t : Int) - 1) = (t : Int) - 1 := w64 (by omega) (by omega)
theorem l3_w1 (a : Nat) (h : a < 256) : wrap64 (2 * (a : Int)) = 2 * (a : Int) := w64 (by omega) (by omega)
theorem l3_w2 (a : Nat) (h : a < 256) : wrap64 (2 * (a : Int) + 1) = 2 * (a : Int) + 1 := w64 (by omega) (by omega)
theorem l3_0 (x : Nat) : ((x % 256 : Nat) : Int) % 256 = ((x % 256 : Nat) : Int) := by omega
theorem refpack_l3 (n N : Nat) (hN : N < 2 ^ n) (s : Int) (x10 : List Int) (q : Nat) (hq : q < 10000000) (h10 : x10.length < 140737488355328) :
    ∀ (t : Nat), t < 9 → ∀ res, Ev (fun k => estreatref02_Pack.l2 k s (bitsN n N) (x10 ++ [((N / 2 ^ (8 * q) % 256 : Nat) : Int)]) (wrap64 (q + 1))) res →
      Ev (fun k => estreatref02_Pack.l3 k s (bitsN n N) x10 q ((N / 2 ^ (8 * q + t) % 2 ^ (8 - t) : Nat) : Int) ((t : Int) - 1)) res := by
  intro t
  induction t with
  | zero =>
    intro ht res h
    refine Ev.step (fun k => ?_) h
    simp only [estreatref02_Pack.l3]
    rw [if_neg (by decide), if_pos h10]
    have : ((N / 2 ^ (8 * q + 0) % 2 ^ (8 - 0) : Nat) : Int) % 256 = ((N / 2 ^ (8 * q) % 256 : Nat) : Int) := by
      rw [show (2 : Nat) ^ (8 - 0) = 256 from by decide, Nat.add_zero]; exact l3_0 _
    rw [this]
  | succ t ih =>
    intro ht res h
    have ht' : t < 9 := Nat.lt_of_succ_lt ht
    have h8 : 8 - t = (8 - (t + 1)) + 1 := (Nat.sub_add_cancel (Nat.sub_pos_of_lt (Nat.lt_of_succ_lt_succ ht))).symm
    have hor := horner N (8 * q + t) (8 - (t + 1))
    rw [← h8] at hor
    have hlt : N / 2 ^ (8 * q + (t + 1)) % 2 ^ (8 - (t + 1)) < 256 := Nat.lt_of_lt_of_le (Nat.mod_lt _ (Nat.two_pow_pos _)) (Nat.pow_le_pow_right (n := 2) (by decide) (j := 8) (Nat.sub_le _ _))
    have e1 := l3_e1 t
    have e2 := l3_e2 q t hq ht'
    have e3 := l3_e3 t ht'
    obtain ⟨a, ha⟩ : ∃ a, a = N / 2 ^ (8 * q + (t + 1)) % 2 ^ (8 - (t + 1)) := ⟨_, rfl⟩
    have hor' : 2 * a + N / 2 ^ (8 * q + t) % 2 = N / 2 ^ (8 * q + t) % 2 ^ (8 - t) := by rw [ha]; exact hor
    rw [← ha] at hlt
    have hih := ih ht' res h
    rw [← hor'] at hih
    rw [← ha]
    have w1 := l3_w1 a hlt
    have w2 := l3_w2 a hlt
    have hb := Nat.testBit_eq_decide_div_mod_eq (x := N) (i := 8 * q + t)
    by_cases hz : N / 2 ^ (8 * q + t) % 2 = 1
    · rw [hz] at hih hb
      have hin : 8 * q + t < n := by
        refine Classical.byContradiction fun hc => ?_
        have : N / 2 ^ (8 * q + t) = 0 := Nat.div_eq_of_lt (Nat.lt_of_lt_of_le hN (Nat.pow_le_pow_right (by decide) (Nat.le_of_not_lt hc)))
        rw [this] at hz; exact absurd hz (by decide)
      refine Ev.step (fun k => ?_) hih
      simp only [estreatref02_Pack.l3]
      rw [e1, if_pos (Int.natCast_nonneg _), e2, bitsN_length, if_pos (Int.ofNat_lt.2 hin), if_pos (Int.natCast_nonneg _), rdOf_bits n N _ hin, hb, if_pos (by decide), w1, w2, e3]
      rfl
    · have hz0 := mod_one_or _ hz
      rw [hz0] at hih hb
      refine Ev.step (fun k => ?_) hih
      simp only [estreatref02_Pack.l3]
      rw [e1, if_pos (Int.natCast_nonneg _), e2, bitsN_length, w1, e3]
      by_cases hin : 8 * q + t < n
      · rw [if_pos (Int.ofNat_lt.2 hin), if_pos (Int.natCast_nonneg _), rdOf_bits n N _ hin, hb, if_neg (by decide)]; rfl
      · rw [if_neg (fun h => hin (Int.ofNat_lt.1 h))]; rfl
theorem digs_snoc (q N : Nat) : digs (q + 1) N = digs q N ++ [((N / 2 ^ (8 * q) % 256 : Nat) : Int)] := by
  rw [digs_split, Nat.pow_mul]; rfl
theorem l2_e3 (q : Nat) (hq : q < 10000000) : wrap64 ((q : Int) + 1) = ((q + 1 : Nat) : Int) := by rw [w64 (by omega) (by omega)]; rfl
theorem l2_q {s q d : Nat} (h : s = q + (d + 1)) : q < s ∧ s = q + 1 + d := by omega
theorem l2_len {q s : Nat} (h : q < s) (hs : s < 10000000) : q < 140737488355328 := by omega
theorem refpack_l2 (n N : Nat) (hN : N < 2 ^ n) (s : Nat) (hs : s < 10000000) :
    ∀ (d q : Nat), s = q + d → Ev (fun k => estreatref02_Pack.l2 k s (bitsN n N) (digs q N) q) (digs s N, 0) := by
  intro d
  induction d with
  | zero =>
    intro q hd
    have : q = s := hd.symm
    subst this
    refine Ev.step (f := fun _ => some (digs q N, 0)) (fun k => ?_) (Ev.now _)
    simp only [estreatref02_Pack.l2]
    rw [if_neg (Int.lt_irrefl _)]
  | succ d ih =>
    intro q hd
    obtain ⟨hq, hd'⟩ := l2_q hd
    have e3 := l2_e3 q (Nat.lt_trans hq hs)
    refine Ev.step (fun k => ?_) (refpack_l3 n N hN s (digs q N) q (Nat.lt_trans hq hs) (by rw [digs_length]; exact l2_len hq hs) 8 (by decide) _ (by rw [e3, ← digs_snoc]; exact ih (q + 1) hd'))
    simp only [estreatref02_Pack.l2]
    rw [if_pos (Int.ofNat_lt.2 hq)]
    have : N / 2 ^ (8 * q + 8) % 2 ^ (8 - 8) = 0 := by simp [Nat.mod_one]
    rw [this]; rfl
theorem refpack_f (L : List Int) (w : Int) (hL : ∀ x ∈ L, 0 ≤ x ∧ x < 18446744073709551616) : Ev (fun k => estreatref02_Pack.f k L w) (packed L w) := by
  unfold estreatref02_Pack.f packed
  by_cases ho : okSize L.length w
  · obtain ⟨h1, h2, h3, h4⟩ := id ho
    obtain ⟨m, rfl⟩ := Int.eq_ofNat_of_zero_le h3
    rw [if_pos ho]
    have hs : sizeN L.length m < 10000000 := by
      unfold sizeN
      have : L.length * m ≤ 65536 * 64 := Nat.mul_le_mul (by omega) (by omega)
      omega
    have hsz : Ev (fun k => estreatref02_Size.f k (L.length : Int) (m : Int)) ((sizeN L.length m : Nat) : Int) := ⟨1, fun k hk => by
      show estreatref02_Size.f k (L.length : Int) (m : Int) = _
      rw [refsize_f _ _ hk, if_pos ho]; rfl⟩
    refine Ev.bind hsz ?_
    have hm64 : m ≤ 64 := by omega
    have hln : L.length ≤ 65536 := by omega
    have hmx := maxW_fit L m hm64 hL
    have hneg : ¬ ((sizeN L.length m : Nat) : Int) < 0 := Int.not_lt.2 (Int.natCast_nonneg _)
    simp only [if_neg hneg]
    refine Ev.bind (refwidth_f L hln hL) ?_
    by_cases hf : fitAll L m
    · have hle : ¬ ((maxW L : Nat) : Int) > (m : Int) := Int.not_lt.2 (Int.ofNat_le.2 (hmx.2 hf))
      simp only [Int.toNat_natCast, if_neg hle, if_pos hf]
      have hN := numN_lt m L hf
      exact refpack_l0 m hm64 L hln hL hf _ L.length 0 (Nat.zero_add _).symm _ (refpack_l2 (m * L.length) (numN m L) hN (sizeN L.length m) hs (sizeN L.length m) 0 (Nat.zero_add _).symm)
    · have hgt : ((maxW L : Nat) : Int) > (m : Int) := Int.ofNat_lt.2 (Nat.lt_of_not_le (fun h => hf (hmx.1 h)))
      simp only [Int.toNat_natCast, if_pos hgt, if_neg hf]
      exact Ev.now _
  · rw [if_neg ho]
    have hsz : Ev (fun k => estreatref02_Size.f k (L.length : Int) w) (-1) := ⟨1, fun k hk => by
      show estreatref02_Size.f k (L.length : Int) w = _
      rw [refsize_f _ _ hk, if_neg ho]⟩
    refine Ev.bind hsz ?_
    have hneg : (-1 : Int) < 0 := by decide
    simp only [if_pos hneg]
    exact Ev.now _

/-! plain.Put: the forms, one behind the other -/
def plainOf (l : List Int) : List Int := l.flatMap fun n => leb (zz n).toNat
theorem plainOf_cons (x : Int) (l : List Int) : plainOf (x :: l) = leb (zz x).toNat ++ plainOf l := by simp [plainOf]
theorem plainOf_append (l m : List Int) : plainOf (l ++ m) = plainOf l ++ plainOf m := by simp [plainOf]
theorem plainOf_length (l : List Int) (hw : ∀ x ∈ l, -9223372036854775808 ≤ x ∧ x ≤ 9223372036854775807) : (plainOf l).length ≤ 10 * l.length := by
  induction l with
  | nil => simp [plainOf]
  | cons x l ih =>
    have hx := hw x (by simp)
    have hz := zz_range hx.1 hx.2
    have := ih (fun y hy => hw y (by simp [hy]))
    have h10 := leb_length10 (v := (zz x).toNat) (by omega)
    rw [plainOf_cons, List.length_append, List.length_cons]; omega
theorem plainput_l0 (l : List Int) (hn : l.length ≤ 65536) (hw : ∀ x ∈ l, -9223372036854775808 ≤ x ∧ x ≤ 9223372036854775807) :
    ∀ (d k i : Nat) (b : List Int), l.length = i + d → d + 10 < k → b.length ≤ 10 * i → plain_Put.l0 k b l l.length i = some (b ++ plainOf (l.drop i), 0) := by
  intro d
  induction d with
  | zero =>
    intro k i b hd hk hb
    obtain ⟨k, rfl⟩ : ∃ m, k = m + 1 := ⟨k - 1, by omega⟩
    simp only [plain_Put.l0]
    rw [if_neg (by omega), List.drop_of_length_le (by omega)]; simp [plainOf]
  | succ d ih =>
    intro k i b hd hk hb
    obtain ⟨k, rfl⟩ : ∃ m, k = m + 1 := ⟨k - 1, by omega⟩
    simp only [plain_Put.l0]
    have hx := hw l[i] (List.getElem_mem (by omega))
    have hz := zz_range hx.1 hx.2
    have h10 := leb_length10 (v := (zz l[i]).toNat) (by omega)
    rw [if_pos (by omega), if_pos (by omega), if_pos (by omega), rd_get (by omega), zig_f hx.1 hx.2]
    simp only [Option.bind_some]
    rw [putvar_f hz.1 hz.2 (by omega) (by omega)]
    simp only [Option.bind_some]
    rw [w64 (by omega) (by omega)]
    have := ih k (i + 1) (b ++ leb (zz l[i]).toNat) (by omega) (by omega) (by simp; omega)
    simp only [Int.natCast_add, Int.natCast_one] at this
    rw [this, dropc l i (by omega), plainOf_cons, List.append_assoc]
theorem plainput_f (l : List Int) (hn : l.length ≤ 65536) (hw : ∀ x ∈ l, -9223372036854775808 ≤ x ∧ x ≤ 9223372036854775807) {k : Nat} (hk : l.length + 10 < k) : plain_Put.f k l = some (plainOf l, 0) := by
  unfold plain_Put.f
  rw [if_neg (by omega)]
  simpa using plainput_l0 l hn hw l.length k 0 [] (by omega) hk (by simp)

theorem refplain_l0 (l : List Int) (hn : l.length ≤ 65536) (hw : ∀ x ∈ l, -9223372036854775808 ≤ x ∧ x ≤ 9223372036854775807) :
    ∀ (d k i : Nat) (b : List Int), l.length = i + d → d + 10 < k → b.length ≤ 10 * i → estreatref08_Put.l0 k l b i = some (b ++ plainOf (l.drop i)) := by
  intro d
  induction d with
  | zero =>
    intro k i b hd hk hb
    obtain ⟨k, rfl⟩ : ∃ m, k = m + 1 := ⟨k - 1, by omega⟩
    simp only [estreatref08_Put.l0]
    rw [if_neg (by omega), List.drop_of_length_le (by omega)]; simp [plainOf]
  | succ d ih =>
    intro k i b hd hk hb
    obtain ⟨k, rfl⟩ : ∃ m, k = m + 1 := ⟨k - 1, by omega⟩
    simp only [estreatref08_Put.l0]
    have hx := hw l[i] (List.getElem_mem (by omega))
    have hz := zz_range hx.1 hx.2
    have h10 := leb_length10 (v := (zz l[i]).toNat) (by omega)
    rw [if_pos (by omega), if_pos (by omega), rd_get (by omega), refzig_f hx.1 hx.2]
    simp only [Option.bind_some]
    rw [refvar hz.1 hz.2 (by omega)]
    simp only [Option.bind_some]
    rw [if_pos (by omega), w64 (by omega) (by omega)]
    have := ih k (i + 1) (b ++ leb (zz l[i]).toNat) (by omega) (by omega) (by simp; omega)
    simp only [Int.natCast_add, Int.natCast_one] at this
    rw [this, dropc l i (by omega), plainOf_cons, List.append_assoc]
theorem refplain_f (l : List Int) (hn : l.length ≤ 65536) (hw : ∀ x ∈ l, -9223372036854775808 ≤ x ∧ x ≤ 9223372036854775807) {k : Nat} (hk : l.length + 10 < k) : estreatref08_Put.f k l = some (plainOf l) := by
  unfold estreatref08_Put.f
  simpa using refplain_l0 l hn hw l.length k 0 [] (by omega) hk (by simp)

end Go.Proofs.YtefcchpjbojdkaaGreatDoor.Pure

namespace Go.Proofs.YtefcchpjbojdkaaGreatDoor.Pure
open Go.RowKit Go.Proofs.YtefcchpjbojdkaaGreatDoor.PChunkPuts Go.Proofs.YtefcchpjbojdkaaGreatDoorW.PrintWords Go.Proofs.YtefcchpjbojdkaaGreatDoorW.PrintLast Go.Proofs.YtefcchpjbojdkaaGreatDoorW.PrintMore
set_option linter.unusedVariables false
set_option linter.unusedSimpArgs false

/-! delta: steps, sums, turned numbers, Put -/
def I64 (x : Int) : Prop := -9223372036854775808 ≤ x ∧ x ≤ 9223372036854775807
theorem wrap_i64 (x : Int) : I64 (wrap64 x) := by unfold I64 wrap64; omega
def steps : Int → List Int → List Int
  | _, [] => []
  | last, x :: l => wrap64 (x - last) :: steps x l
def sums : Int → List Int → List Int
  | _, [] => []
  | last, x :: l => wrap64 (last + x) :: sums (wrap64 (last + x)) l
theorem steps_length : ∀ (l : List Int) (a : Int), (steps a l).length = l.length := by
  intro l; induction l with
  | nil => intro a; rfl
  | cons x l ih => intro a; simp [steps, ih]
theorem sums_length : ∀ (l : List Int) (a : Int), (sums a l).length = l.length := by
  intro l; induction l with
  | nil => intro a; rfl
  | cons x l ih => intro a; simp [sums, ih]
theorem steps_i64 : ∀ (l : List Int) (a : Int), ∀ x ∈ steps a l, I64 x := by
  intro l; induction l with
  | nil => intro a x hx; simp [steps] at hx
  | cons y l ih =>
    intro a x hx
    simp only [steps, List.mem_cons] at hx
    rcases hx with rfl | hx
    · exact wrap_i64 _
    · exact ih _ x hx
theorem steps_l0 (l : List Int) (hn : l.length ≤ 65536) : ∀ (d k i : Nat) (out : List Int) (last : Int), l.length = i + d → d < k → out.length ≤ i → delta_Steps.l0 k out last l l.length i = some (out ++ steps last (l.drop i)) := by
  intro d
  induction d with
  | zero =>
    intro k i out last hd hk ho
    obtain ⟨k, rfl⟩ : ∃ m, k = m + 1 := ⟨k - 1, by omega⟩
    simp only [delta_Steps.l0]
    rw [if_neg (by omega), List.drop_of_length_le (by omega)]; simp [steps]
  | succ d ih =>
    intro k i out last hd hk ho
    obtain ⟨k, rfl⟩ : ∃ m, k = m + 1 := ⟨k - 1, by omega⟩
    simp only [delta_Steps.l0]
    have := ih k (i + 1) (out ++ [wrap64 (l[i] - last)]) l[i] (by omega) (by omega) (by simp; omega)
    simp only [Int.natCast_add, Int.natCast_one] at this
    rw [if_pos (by omega), if_pos (by omega), if_pos (by omega), if_pos (by omega), rd_get (by omega), w64 (n := (i : Int) + 1) (by omega) (by omega), this, dropc l i (by omega), steps, List.append_assoc, List.singleton_append]
theorem steps_f (l : List Int) (hn : l.length ≤ 65536) : Ev (fun k => delta_Steps.f k l) (steps 0 l) := ⟨l.length + 1, fun k hk => by
  show delta_Steps.f k l = _
  unfold delta_Steps.f
  have := steps_l0 l hn l.length k 0 [] 0 (by omega) (by omega) (by simp)
  simpa using this⟩
theorem zigs_l0 (l : List Int) (hn : l.length ≤ 65536) (hw : ∀ x ∈ l, I64 x) : ∀ (d k i : Nat) (out : List Int), l.length = i + d → d < k → out.length ≤ i → delta_zigs.l0 k out l l.length i = some (out ++ (l.drop i).map zz) := by
  intro d
  induction d with
  | zero =>
    intro k i out hd hk ho
    obtain ⟨k, rfl⟩ : ∃ m, k = m + 1 := ⟨k - 1, by omega⟩
    simp only [delta_zigs.l0]
    rw [if_neg (by omega), List.drop_of_length_le (by omega)]; simp
  | succ d ih =>
    intro k i out hd hk ho
    obtain ⟨k, rfl⟩ : ∃ m, k = m + 1 := ⟨k - 1, by omega⟩
    simp only [delta_zigs.l0]
    have hx := hw l[i] (List.getElem_mem (by omega))
    have := ih k (i + 1) (out ++ [zz l[i]]) (by omega) (by omega) (by simp; omega)
    simp only [Int.natCast_add, Int.natCast_one] at this
    rw [if_pos (by omega), if_pos (by omega), if_pos (by omega), rd_get (by omega), zig_f hx.1 hx.2, Option.bind_some, if_pos (by omega), w64 (n := (i : Int) + 1) (by omega) (by omega), this, dropc l i (by omega), List.map_cons, List.append_assoc, List.singleton_append]
theorem zigs_f (l : List Int) (hn : l.length ≤ 65536) (hw : ∀ x ∈ l, I64 x) : Ev (fun k => delta_zigs.f k l) (l.map zz) := ⟨l.length + 1, fun k hk => by
  show delta_zigs.f k l = _
  unfold delta_zigs.f
  have := zigs_l0 l hn hw l.length k 0 [] (by omega) (by omega) (by simp)
  simpa using this⟩
theorem zz_u64 (l : List Int) (hw : ∀ x ∈ l, I64 x) : ∀ x ∈ l.map zz, 0 ≤ x ∧ x < 18446744073709551616 := by
  intro x hx
  obtain ⟨y, hy, rfl⟩ := List.mem_map.1 hx
  exact zz_range (hw y hy).1 (hw y hy).2
/-- the form of turned steps -/
def deltaForm : List Int → List Int
  | [] => []
  | z :: [] => leb z.toNat
  | z :: y :: r => leb z.toNat ++ [(maxW (y :: r) : Int)] ++ (packed (y :: r) (maxW (y :: r))).1
def deltaOf (l : List Int) : List Int := deltaForm ((steps 0 l).map zz)
theorem packed_maxd (d : List Int) (hn : d.length ≤ 65536) (hd : ∀ x ∈ d, 0 ≤ x ∧ x < 18446744073709551616) : (packed d (maxW d)).2 = 0 ∧ (packed d (maxW d)).1.length ≤ 8 * d.length := by
  have h64 := maxW_64 d hd
  have oa : okSize (d.length : Int) ((maxW d : Nat) : Int) := ⟨by omega, by omega, by omega, by omega⟩
  have hf : fitAll d (maxW d) := (maxW_fit d _ h64 hd).1 (Nat.le_refl _)
  unfold packed
  rw [if_pos oa, Int.toNat_natCast, if_pos hf]
  refine ⟨rfl, ?_⟩
  show (digs _ _).length ≤ _
  rw [digs_length]
  have : d.length * maxW d ≤ d.length * 64 := Nat.mul_le_mul_left _ h64
  unfold sizeN; omega
theorem width_evd (L : List Int) (hn : L.length ≤ 65536) (hL : ∀ x ∈ L, 0 ≤ x ∧ x < 18446744073709551616) : Ev (fun k => bits_Width.f k L) (maxW L : Int) := ⟨L.length + 2, fun k hk => width_f L hn hL (by omega)⟩
theorem byte_wd {w : Nat} (h : w ≤ 64) : (w : Int) % 256 = (w : Int) := by omega
theorem putvar_nil {v : Int} (h0 : 0 ≤ v) (h1 : v < 18446744073709551616) : Ev (fun k => num_PutVar.f k ([] : List Int) v) (leb v.toNat) := ⟨10, fun k hk => by
  have := putvar_f (b := []) (k := k) h0 h1 hk (by decide)
  simpa using this⟩
theorem deltaForm_length : ∀ (z : List Int), z.length ≤ 65536 → (∀ x ∈ z, 0 ≤ x ∧ x < 18446744073709551616) → (deltaForm z).length ≤ 8 * z.length + 11 := by
  intro z hn hz
  match z with
  | [] => exact Nat.zero_le _
  | [a] =>
    have ha := hz a (by simp)
    have := leb_length10 (v := a.toNat) (by omega)
    simp only [deltaForm]; omega
  | a :: y :: r =>
    have ha := hz a (by simp)
    have h10 := leb_length10 (v := a.toNat) (by omega)
    have := (packed_maxd (y :: r) (by simp at hn ⊢; omega) (fun x hx => hz x (by simp at hx ⊢; exact .inr hx))).2
    simp only [deltaForm, List.length_append, List.length_cons, List.length_nil] at this ⊢; omega
theorem deltaput_f (l : List Int) (hn : l.length ≤ 65536) : Ev (fun k => delta_Put.f k l) (deltaOf l, 0) := by
  unfold delta_Put.f deltaOf
  have c : ¬ (l.length : Int) > 65536 := by omega
  simp only [if_neg c]
  refine Ev.bind (steps_f l hn) ?_
  have hsl := steps_length l 0
  have hsi := steps_i64 l 0
  refine Ev.bind (zigs_f _ (by omega) hsi) ?_
  have hz := zz_u64 _ hsi
  have hzl : ((steps 0 l).map zz).length = l.length := by rw [List.length_map, hsl]
  obtain ⟨z, hzz⟩ : ∃ z, z = (steps 0 l).map zz := ⟨_, rfl⟩
  rw [← hzz] at hz hzl ⊢
  clear hzz
  match z, hz, hzl with
  | [], hz, hzl =>
    simp only [List.length_nil]
    have c1 : ¬ ((0 : Nat) : Int) = 1 := by decide
    have c2 : ((0 : Nat) : Int) = 0 := rfl
    simp only [if_neg c1, if_pos c2]; exact Ev.now _
  | [a], hz, hzl =>
    have c1 : (([a] : List Int).length : Int) = 1 := rfl
    have c2 : 0 < (([a] : List Int).length : Int) := by simp
    simp only [if_pos c1, if_pos c2]
    have ha := hz a (by simp)
    exact Ev.bind (putvar_nil ha.1 ha.2) (Ev.now _)
  | a :: y :: r, hz, hzl =>
    have c1 : ¬ ((a :: y :: r : List Int).length : Int) = 1 := by simp only [List.length_cons]; omega
    have c2 : ¬ ((a :: y :: r : List Int).length : Int) = 0 := by simp only [List.length_cons]; omega
    have c3 : 1 ≤ ((a :: y :: r : List Int).length : Int) := by simp only [List.length_cons]; omega
    have c4 : 0 < ((a :: y :: r : List Int).length : Int) := by simp only [List.length_cons]; omega
    simp only [if_neg c1, if_neg c2, if_pos c3, if_pos c4]
    have ha := hz a (by simp)
    have hr : ∀ x ∈ y :: r, 0 ≤ x ∧ x < 18446744073709551616 := fun x hx => hz x (List.mem_cons_of_mem _ hx)
    have hrl : (y :: r).length ≤ 65536 := by simp only [List.length_cons] at hzl ⊢; omega
    obtain ⟨q1, q2⟩ := packed_maxd _ hrl hr
    refine Ev.bind (Ev.now _) ?_
    refine Ev.bind (width_evd (y :: r) hrl hr) ?_
    refine Ev.bind (pack_f (y :: r) _ hr) ?_
    refine Ev.bind (Ev.now _) ?_
    have i1 : ([((maxW (y :: r) : Nat) : Int)] : List Int).length + (packed (y :: r) ((maxW (y :: r) : Nat) : Int)).1.length < 140737488355328 := by simp only [List.length_singleton]; omega
    simp only [byte_wd (maxW_64 _ hr), if_pos i1]
    refine Ev.bind (Ev.now _) ?_
    refine Ev.bind (putvar_nil ha.1 ha.2) ?_
    have h10 := leb_length10 (v := a.toNat) (by omega)
    have i2 : (leb a.toNat).length + ([((maxW (y :: r) : Nat) : Int)] ++ (packed (y :: r) ((maxW (y :: r) : Nat) : Int)).1).length < 140737488355328 := by rw [List.length_append, List.length_singleton]; omega
    have e : rd (a :: y :: r) 0 = a := rfl
    rw [e]
    simp only [if_pos i2, q1, deltaForm, List.append_assoc]
    exact Ev.now _
theorem rd_last (out : List Int) (x : Int) (j : Nat) (h : out.length = j) : rd (out ++ [x]) (j : Int) = x := by
  rw [rd_nat, ← h]; simp
theorem refsteps_l0 (l : List Int) (hn : l.length ≤ 65536) (hw : ∀ x ∈ l, I64 x) : ∀ (d k i : Nat) (out : List Int), l.length = i + d → d < k → out.length ≤ i → ∀ last, (i = 0 → last = 0) → (∀ j, i = j + 1 → last = rd l j) → estreatref10_Steps.l0 k l out i = some (out ++ steps last (l.drop i)) := by
  intro d
  induction d with
  | zero =>
    intro k i out hd hk ho last h0 h1
    obtain ⟨k, rfl⟩ : ∃ m, k = m + 1 := ⟨k - 1, by omega⟩
    simp only [estreatref10_Steps.l0]
    rw [if_neg (by omega), List.drop_of_length_le (by omega)]; simp [steps]
  | succ d ih =>
    intro k i out hd hk ho last h0 h1
    obtain ⟨k, rfl⟩ : ∃ m, k = m + 1 := ⟨k - 1, by omega⟩
    simp only [estreatref10_Steps.l0]
    have hx := hw l[i] (List.getElem_mem (by omega))
    have := ih k (i + 1) (out ++ [wrap64 (l[i] - last)]) (by omega) (by omega) (by simp; omega) l[i] (by omega) (fun j hj => by
      have : j = i := by omega
      subst this; rw [rd_get (by omega)])
    simp only [Int.natCast_add, Int.natCast_one] at this
    rw [if_pos (by omega)]
    cases i with
    | zero =>
      have hl0 := h0 rfl
      subst hl0
      rw [if_pos (by rfl), if_pos (by omega), if_pos (by omega)]
      have e : rd l 0 = l[0] := rd_get (i := 0) (by omega)
      have ew : wrap64 (l[0] - 0) = l[0] := by rw [Int.sub_zero, w64 hx.1 hx.2]
      rw [ew] at this
      rw [e, w64 (n := ((0 : Nat) : Int) + 1) (by omega) (by omega), this, dropc l 0 (by omega), steps, ew, List.append_assoc, List.singleton_append]
    | succ j =>
      have hl1 := h1 j rfl
      have e1 : wrap64 (((j + 1 : Nat) : Int) - 1) = (j : Int) := by rw [w64 (by omega) (by omega)]; omega
      rw [if_neg (by omega), if_pos (by omega), e1, if_pos (by omega), if_pos (by omega), if_pos (by omega), ← hl1, rd_get (i := j + 1) (by omega), w64 (n := ((j + 1 : Nat) : Int) + 1) (by omega) (by omega), this, dropc l (j + 1) (by omega), steps, List.append_assoc, List.singleton_append]
theorem refsteps_f (l : List Int) (hn : l.length ≤ 65536) (hw : ∀ x ∈ l, I64 x) : Ev (fun k => estreatref10_Steps.f k l) (steps 0 l) := ⟨l.length + 1, fun k hk => by
  show estreatref10_Steps.f k l = _
  unfold estreatref10_Steps.f
  have := refsteps_l0 l hn hw l.length k 0 [] (by omega) (by omega) (by simp) 0 (fun _ => rfl) (fun j h => by omega)
  simpa using this⟩
theorem refvar_ev {v : Int} (h0 : 0 ≤ v) (h1 : v < 18446744073709551616) : Ev (fun k => estreatref01_Var.f k v) (leb v.toNat) := ⟨10, fun _ hk => refvar h0 h1 hk⟩
theorem refdelta_l0 (s : List Int) (hn : s.length ≤ 65536) (hs : ∀ x ∈ s, I64 x) (b : List Int) (hb : b.length ≤ 10) :
    ∀ (d i : Nat) (out : List Int), s.length = i + d → out.length ≤ i → ∀ full, full = out ++ (s.drop i).map zz → (∀ x ∈ full, 0 ≤ x ∧ x < 18446744073709551616) → full.length ≤ 65536 →
      Ev (fun k => estreatref10_Put.l0 k s b out i) (b ++ [(maxW full : Int)] ++ (packed full (maxW full)).1) := by
  intro d
  induction d with
  | zero =>
    intro i out hd ho full hf hfu hfl
    have : full = out := by rw [hf, List.drop_of_length_le (by omega)]; simp
    subst this
    refine Ev.step (f := fun k => (estreatref02_Width.f k full).bind fun t223 => ((estreatref02_Pack.f k full t223).bind fun bt224 => (if b.length < 140737488355328 then ((some (b ++ [(t223) % 256] : List Int)).bind fun y228 => (if y228.length + bt224.1.length < 140737488355328 then (some (y228 ++ bt224.1)) else (none))) else (none)))) (fun k => ?_) ?_
    · simp only [estreatref10_Put.l0]
      rw [if_neg (by omega)]
    · obtain ⟨q1, q2⟩ := packed_maxd full hfl hfu
      refine Ev.bind (refwidth_f full hfl hfu) ?_
      refine Ev.bind (refpack_f full _ hfu) ?_
      have i1 : b.length < 140737488355328 := by omega
      simp only [if_pos i1, byte_wd (maxW_64 _ hfu)]
      refine Ev.bind (Ev.now _) ?_
      have i2 : (b ++ [((maxW full : Nat) : Int)]).length + (packed full ((maxW full : Nat) : Int)).1.length < 140737488355328 := by rw [List.length_append, List.length_singleton]; omega
      simp only [if_pos i2]
      exact Ev.now _
  | succ d ih =>
    intro i out hd ho full hf hfu hfl
    have hx := hs s[i] (List.getElem_mem (by omega))
    refine Ev.step (fun k => ?_) (ih (i + 1) (out ++ [zz s[i]]) (by omega) (by simp; omega) full (by rw [hf, dropc s i (by omega), List.map_cons, List.append_assoc, List.singleton_append]) hfu hfl)
    simp only [estreatref10_Put.l0]
    rw [if_pos (by omega), if_pos (by omega), rd_get (by omega), refzig_f hx.1 hx.2, Option.bind_some, if_pos (by omega), w64 (by omega) (by omega)]; rfl
theorem refdelta_f (l : List Int) (hn : l.length ≤ 65536) (hw : ∀ x ∈ l, I64 x) : Ev (fun k => estreatref10_Put.f k l) (deltaOf l) := by
  unfold estreatref10_Put.f deltaOf
  refine Ev.bind (refsteps_f l hn hw) ?_
  have hsl := steps_length l 0
  have hsi := steps_i64 l 0
  obtain ⟨s, hss⟩ : ∃ s, s = steps 0 l := ⟨_, rfl⟩
  rw [← hss] at hsl hsi ⊢
  clear hss
  match s, hsl, hsi with
  | [], hsl, hsi =>
    have c2 : (([] : List Int).length : Int) = 0 := rfl
    simp only [if_pos c2]; exact Ev.now _
  | a :: r, hsl, hsi =>
    have c2 : ¬ ((a :: r : List Int).length : Int) = 0 := by simp only [List.length_cons]; omega
    have c4 : 0 < ((a :: r : List Int).length : Int) := by simp only [List.length_cons]; omega
    simp only [if_neg c2, if_pos c4]
    have ha := hsi a (by simp)
    have hz := zz_range ha.1 ha.2
    have e : rd (a :: r) 0 = a := rfl
    rw [e, refzig_f ha.1 ha.2]
    refine Ev.bind (Ev.now _) ?_
    refine Ev.bind (refvar_ev hz.1 hz.2) ?_
    have h10 := leb_length10 (v := (zz a).toNat) (by omega)
    match r, hsl, hsi with
    | [], hsl, hsi =>
      have c1 : (([a] : List Int).length : Int) = 1 := rfl
      simp only [if_pos c1]; exact Ev.now _
    | y :: r, hsl, hsi =>
      have c1 : ¬ ((a :: y :: r : List Int).length : Int) = 1 := by simp only [List.length_cons]; omega
      simp only [if_neg c1]
      have hl : (a :: y :: r).length ≤ 65536 := by omega
      have := refdelta_l0 (a :: y :: r) hl hsi (leb (zz a).toNat) h10 (y :: r).length 1 [] (by simp only [List.length_cons]; omega) (by simp) ((y :: r).map zz) (by simp) (zz_u64 _ (fun x hx => hsi x (List.mem_cons_of_mem _ hx))) (by simp only [List.length_map, List.length_cons] at hl ⊢; omega)
      exact this

/-! fore.Put -/
def minOf : List Int → Int
  | [] => 0
  | x :: l => l.foldl mn x
def above (m : Int) (l : List Int) : List Int := l.map fun n => IntKind.u64.wrap (IntKind.u64.wrap n - IntKind.u64.wrap m)
theorem mn_self (x : Int) : mn x x = x := by unfold mn; split <;> omega
theorem mn_le (x y : Int) : mn x y ≤ x ∧ mn x y ≤ y ∧ (mn x y = x ∨ mn x y = y) := by unfold mn; split <;> omega
theorem foldmn_mem : ∀ (l : List Int) (x : Int), l.foldl mn x = x ∨ l.foldl mn x ∈ l := by
  intro l
  induction l with
  | nil => intro x; exact .inl rfl
  | cons y l ih =>
    intro x
    rw [List.foldl_cons]
    rcases ih (mn x y) with h | h
    · rw [h]
      rcases (mn_le x y).2.2 with h | h
      · exact .inl h
      · exact .inr (by rw [h]; simp)
    · exact .inr (List.mem_cons_of_mem _ h)
theorem foldmn_le : ∀ (l : List Int) (x : Int), l.foldl mn x ≤ x ∧ ∀ y ∈ l, l.foldl mn x ≤ y := by
  intro l
  induction l with
  | nil => intro x; exact ⟨Int.le_refl _, by simp⟩
  | cons y l ih =>
    intro x
    rw [List.foldl_cons]
    obtain ⟨h1, h2⟩ := ih (mn x y)
    obtain ⟨g1, g2, _⟩ := mn_le x y
    refine ⟨Int.le_trans h1 g1, fun z hz => ?_⟩
    rcases List.mem_cons.1 hz with rfl | hz
    · exact Int.le_trans h1 g2
    · exact h2 z hz
theorem minOf_mem {l : List Int} (h : l ≠ []) : minOf l ∈ l := by
  cases l with
  | nil => exact absurd rfl h
  | cons x l =>
    rcases foldmn_mem l x with h | h
    · show l.foldl mn x ∈ _; rw [h]; simp
    · exact List.mem_cons_of_mem _ h
theorem minOf_le {l : List Int} {y : Int} (hy : y ∈ l) : minOf l ≤ y := by
  cases l with
  | nil => simp at hy
  | cons x l =>
    obtain ⟨h1, h2⟩ := foldmn_le l x
    rcases List.mem_cons.1 hy with rfl | hy
    · exact h1
    · exact h2 y hy
theorem above_u64 (m : Int) (l : List Int) : ∀ x ∈ above m l, 0 ≤ x ∧ x < 18446744073709551616 := by
  intro x hx
  obtain ⟨y, _, rfl⟩ := List.mem_map.1 hx
  rw [u64w]; omega
theorem above_snoc (m : Int) (l : List Int) (i : Nat) (h : i < l.length) : above m (l.take (i + 1)) = above m (l.take i) ++ [IntKind.u64.wrap (IntKind.u64.wrap l[i] - IntKind.u64.wrap m)] := by
  rw [List.take_succ_eq_append_getElem h]; simp only [above, List.map_append, List.map_cons, List.map_nil]
theorem above_length (m : Int) (l : List Int) : (above m l).length = l.length := by simp [above]
theorem min_l0 (l : List Int) (hn : l.length < 9223372036854775807) : ∀ (d k i : Nat) (m : Int), l.length = i + d → d < k → slices_Min_int64_int64.l0 k l m i = some ((l.drop i).foldl mn m) := by
  intro d
  induction d with
  | zero =>
    intro k i m hd hk
    obtain ⟨k, rfl⟩ : ∃ m, k = m + 1 := ⟨k - 1, by omega⟩
    simp only [slices_Min_int64_int64.l0]
    rw [if_neg (by omega), List.drop_of_length_le (by omega)]; rfl
  | succ d ih =>
    intro k i m hd hk
    obtain ⟨k, rfl⟩ : ∃ m, k = m + 1 := ⟨k - 1, by omega⟩
    simp only [slices_Min_int64_int64.l0]
    have := ih k (i + 1) (mn m l[i]) (by omega) (by omega)
    simp only [Int.natCast_add, Int.natCast_one] at this
    rw [if_pos (by omega), if_pos (by omega), rd_get (by omega), w64 (by omega) (by omega), this, dropc l i (by omega), List.foldl_cons]
theorem min_f (l : List Int) (h : l ≠ []) (hn : l.length < 9223372036854775807) {k : Nat} (hk : l.length < k) : slices_Min_int64_int64.f k l = some (minOf l) := by
  cases l with
  | nil => exact absurd rfl h
  | cons x l =>
    unfold slices_Min_int64_int64.f
    have hlen : (x :: l).length = l.length + 1 := rfl
    rw [if_neg (by omega), if_pos (by omega)]
    have := min_l0 (x :: l) hn l.length k 1 x (by omega) (by omega)
    exact this
def foreOf (l : List Int) : List Int :=
  if l = [] then [] else leb (zz (minOf l)).toNat ++ [(maxW (above (minOf l) l) : Int)] ++ (packed (above (minOf l) l) (maxW (above (minOf l) l))).1
theorem packed_max (d : List Int) (hn : d.length ≤ 65536) (hd : ∀ x ∈ d, 0 ≤ x ∧ x < 18446744073709551616) : (packed d (maxW d)).2 = 0 ∧ packed d (maxW d) = (digs (sizeN d.length (maxW d)) (numN (maxW d) d), 0) := by
  have h64 := maxW_64 d hd
  have oa : okSize (d.length : Int) ((maxW d : Nat) : Int) := ⟨by omega, by omega, by omega, by omega⟩
  have hf : fitAll d (maxW d) := (maxW_fit d _ h64 hd).1 (Nat.le_refl _)
  unfold packed
  rw [if_pos oa, Int.toNat_natCast, if_pos hf]; exact ⟨rfl, rfl⟩
theorem packed_max_len (d : List Int) (hn : d.length ≤ 65536) (hd : ∀ x ∈ d, 0 ≤ x ∧ x < 18446744073709551616) : (packed d (maxW d)).1.length ≤ 8 * d.length := by
  rw [(packed_max d hn hd).2]
  show (digs _ _).length ≤ _
  rw [digs_length]
  have h64 := maxW_64 d hd
  have : d.length * maxW d ≤ d.length * 64 := Nat.mul_le_mul_left _ h64
  unfold sizeN; omega
theorem width_ev' (L : List Int) (hn : L.length ≤ 65536) (hL : ∀ x ∈ L, 0 ≤ x ∧ x < 18446744073709551616) : Ev (fun k => bits_Width.f k L) (maxW L : Int) := ⟨L.length + 2, fun k hk => width_f L hn hL (by omega)⟩
theorem byte_w {w : Nat} (h : w ≤ 64) : (w : Int) % 256 = (w : Int) := by omega
theorem fore_end (l : List Int) (m : Int) (hm : -9223372036854775808 ≤ m ∧ m ≤ 9223372036854775807) (hn : l.length ≤ 65536) :
    Ev (fun k => (bits_Width.f k (above m l)).bind fun t126 => ((bits_Pack.f k (above m l) t126).bind fun bt127 => ((num_Zig.f m).bind fun t131 => ((num_PutVar.f k ([] : List Int) t131).bind fun t132 => (if t132.length < 140737488355328 then ((some (t132 ++ [(t126) % 256] : List Int)).bind fun y135 => (if y135.length + bt127.1.length < 140737488355328 then (some ((y135 ++ bt127.1), bt127.2)) else (none))) else (none))))))
      (leb (zz m).toNat ++ [(maxW (above m l) : Int)] ++ (packed (above m l) (maxW (above m l))).1, 0) := by
  have hd := above_u64 m l
  have hl : (above m l).length ≤ 65536 := by rw [above_length]; exact hn
  refine Ev.bind (width_ev' _ hl hd) ?_
  refine Ev.bind (pack_f _ _ hd) ?_
  rw [zig_f hm.1 hm.2]
  refine Ev.bind (Ev.now _) ?_
  have hz := zz_range hm.1 hm.2
  have hpv : Ev (fun k => num_PutVar.f k ([] : List Int) (zz m)) (leb (zz m).toNat) := ⟨10, fun k hk => by
    have := putvar_f (b := []) (k := k) hz.1 hz.2 hk (by decide)
    simpa using this⟩
  refine Ev.bind hpv ?_
  have h10 := leb_length10 (v := (zz m).toNat) (by omega)
  have hpl := packed_max_len _ hl hd
  have i1 : (leb (zz m).toNat).length < 140737488355328 := by omega
  simp only [if_pos i1]
  refine Ev.bind (Ev.now _) ?_
  have i2 : (leb (zz m).toNat ++ [((maxW (above m l) : Nat) : Int)]).length + (packed (above m l) (maxW (above m l))).1.length < 140737488355328 := by rw [List.length_append, List.length_singleton]; omega
  simp only [byte_w (maxW_64 _ hd), if_pos i2, (packed_max _ hl hd).1]
  exact Ev.now _
theorem fore_l0 (l : List Int) (m : Int) (hm : -9223372036854775808 ≤ m ∧ m ≤ 9223372036854775807) (hn : l.length ≤ 65536) :
    ∀ (d i : Nat), l.length = i + d → Ev (fun k => fore_Put.l0 k m (above m (l.take i)) l l.length i) (leb (zz m).toNat ++ [(maxW (above m l) : Int)] ++ (packed (above m l) (maxW (above m l))).1, 0) := by
  intro d
  induction d with
  | zero =>
    intro i hd
    refine Ev.step (fun k => ?_) (fore_end l m hm hn)
    simp only [fore_Put.l0]
    rw [if_neg (by omega), List.take_of_length_le (by omega)]
  | succ d ih =>
    intro i hd
    refine Ev.step (fun k => ?_) (ih (i + 1) (by omega))
    simp only [fore_Put.l0]
    have hl : (above m (l.take i)).length < 17592186044416 := by rw [above_length, List.length_take]; omega
    rw [if_pos (by omega), if_pos (by omega), if_pos (by omega), if_pos hl, rd_get (by omega), w64 (by omega) (by omega), above_snoc m l i (by omega)]
    rfl
theorem foreput_f (l : List Int) (hn : l.length ≤ 65536) (hw : ∀ x ∈ l, -9223372036854775808 ≤ x ∧ x ≤ 9223372036854775807) : Ev (fun k => fore_Put.f k l) (foreOf l, 0) := by
  unfold fore_Put.f foreOf
  have c : ¬ (l.length : Int) > 65536 := by omega
  simp only [if_neg c]
  by_cases h : l = []
  · have c2 : (l.length : Int) = 0 := by rw [h]; rfl
    simp only [if_pos c2, if_pos h]; exact Ev.now _
  · have hpos : 0 < l.length := List.length_pos_iff.2 h
    have c2 : ¬ (l.length : Int) = 0 := by omega
    simp only [if_neg c2, if_neg h]
    have hmin : Ev (fun k => slices_Min_int64_int64.f k l) (minOf l) := ⟨l.length + 1, fun k hk => min_f l h (by omega) (by omega)⟩
    refine Ev.bind hmin ?_
    have := fore_l0 l (minOf l) (hw _ (minOf_mem h)) hn l.length 0 (by omega)
    simpa [above] using this
theorem foreOf_length (l : List Int) (hn : l.length ≤ 65536) (hw : ∀ x ∈ l, -9223372036854775808 ≤ x ∧ x ≤ 9223372036854775807) : (foreOf l).length ≤ 8 * l.length + 11 := by
  unfold foreOf
  by_cases h : l = []
  · rw [if_pos h]; exact Nat.zero_le _
  · rw [if_neg h, List.length_append, List.length_append, List.length_singleton]
    have hm := hw _ (minOf_mem h)
    have hz := zz_range hm.1 hm.2
    have h10 := leb_length10 (v := (zz (minOf l)).toNat) (by omega)
    have := packed_max_len (above (minOf l) l) (by rw [above_length]; exact hn) (above_u64 _ _)
    rw [above_length] at this
    omega
theorem reffore_end (l : List Int) (m : Int) (hm : -9223372036854775808 ≤ m ∧ m ≤ 9223372036854775807) (hn : l.length ≤ 65536) :
    Ev (fun k => (estreatref02_Width.f k (above m l)).bind fun t182 => ((estreatref02_Pack.f k (above m l) t182).bind fun bt183 => ((estreatref01_Zig.f m).bind fun t187 => ((estreatref01_Var.f k t187).bind fun t188 => (if t188.length < 140737488355328 then ((some (t188 ++ [(t182) % 256] : List Int)).bind fun y191 => (if y191.length + bt183.1.length < 140737488355328 then (some (y191 ++ bt183.1)) else (none))) else (none))))))
      (leb (zz m).toNat ++ [(maxW (above m l) : Int)] ++ (packed (above m l) (maxW (above m l))).1) := by
  have hd := above_u64 m l
  have hl : (above m l).length ≤ 65536 := by rw [above_length]; exact hn
  refine Ev.bind (refwidth_f _ hl hd) ?_
  refine Ev.bind (refpack_f _ _ hd) ?_
  rw [refzig_f hm.1 hm.2]
  refine Ev.bind (Ev.now _) ?_
  have hz := zz_range hm.1 hm.2
  have hpv : Ev (fun k => estreatref01_Var.f k (zz m)) (leb (zz m).toNat) := ⟨10, fun k hk => refvar hz.1 hz.2 hk⟩
  refine Ev.bind hpv ?_
  have h10 := leb_length10 (v := (zz m).toNat) (by omega)
  have hpl := packed_max_len _ hl hd
  have i1 : (leb (zz m).toNat).length < 140737488355328 := by omega
  simp only [if_pos i1]
  refine Ev.bind (Ev.now _) ?_
  have i2 : (leb (zz m).toNat ++ [((maxW (above m l) : Nat) : Int)]).length + (packed (above m l) (maxW (above m l))).1.length < 140737488355328 := by rw [List.length_append, List.length_singleton]; omega
  simp only [byte_w (maxW_64 _ hd), if_pos i2]
  exact Ev.now _
theorem reffore_l1 (l : List Int) (m : Int) (hm : -9223372036854775808 ≤ m ∧ m ≤ 9223372036854775807) (hn : l.length ≤ 65536) :
    ∀ (d i : Nat), l.length = i + d → Ev (fun k => estreatref12_Put.l1 k l m (above m (l.take i)) i) (leb (zz m).toNat ++ [(maxW (above m l) : Int)] ++ (packed (above m l) (maxW (above m l))).1) := by
  intro d
  induction d with
  | zero =>
    intro i hd
    refine Ev.step (fun k => ?_) (reffore_end l m hm hn)
    simp only [estreatref12_Put.l1]
    rw [if_neg (by omega), List.take_of_length_le (by omega)]
  | succ d ih =>
    intro i hd
    refine Ev.step (fun k => ?_) (ih (i + 1) (by omega))
    simp only [estreatref12_Put.l1]
    have hl : (above m (l.take i)).length < 17592186044416 := by rw [above_length, List.length_take]; omega
    rw [if_pos (by omega), if_pos (by omega), if_pos hl, rd_get (by omega), w64 (by omega) (by omega), above_snoc m l i (by omega)]
    rfl
theorem reffore_l0 (l : List Int) (hn : l.length ≤ 65536) (r : List Int) (M : Int) (hgo : Ev (fun k => estreatref12_Put.l1 k l M [] 0) r) :
    ∀ (d i : Nat) (m : Int), l.length = i + d → (l.drop i).foldl mn m = M → Ev (fun k => estreatref12_Put.l0 k l m i) r := by
  intro d
  induction d with
  | zero =>
    intro i m hd hM
    rw [List.drop_of_length_le (by omega)] at hM
    have : m = M := hM
    subst this
    refine Ev.step (fun k => ?_) hgo
    simp only [estreatref12_Put.l0]
    rw [if_neg (by omega)]
  | succ d ih =>
    intro i m hd hM
    refine Ev.step (fun k => ?_) (ih (i + 1) (mn m l[i]) (by omega) (by rw [← hM, dropc l i (by omega), List.foldl_cons]))
    simp only [estreatref12_Put.l0]
    rw [if_pos (by omega), if_pos (by omega), rd_get (by omega), w64 (by omega) (by omega)]; rfl
theorem reffore_f (l : List Int) (hn : l.length ≤ 65536) (hw : ∀ x ∈ l, -9223372036854775808 ≤ x ∧ x ≤ 9223372036854775807) : Ev (fun k => estreatref12_Put.f k l) (foreOf l) := by
  unfold estreatref12_Put.f foreOf
  by_cases h : l = []
  · have c2 : (l.length : Int) = 0 := by rw [h]; rfl
    simp only [if_pos c2, if_pos h]; exact Ev.now _
  · have hpos : 0 < l.length := List.length_pos_iff.2 h
    have c2 : ¬ (l.length : Int) = 0 := by omega
    have c3 : 0 < (l.length : Int) := by omega
    simp only [if_neg c2, if_neg h, if_pos c3]
    have h1 := reffore_l1 l (minOf l) (hw _ (minOf_mem h)) hn l.length 0 (by omega)
    have h1' : Ev (fun k => estreatref12_Put.l1 k l (minOf l) [] 0) (leb (zz (minOf l)).toNat ++ [(maxW (above (minOf l) l) : Int)] ++ (packed (above (minOf l) l) (maxW (above (minOf l) l))).1) := by
      simpa [above] using h1
    refine reffore_l0 l hn _ (minOf l) h1' l.length 0 _ (by omega) ?_
    cases l with
    | nil => exact absurd rfl h
    | cons x l => show (x :: l).foldl mn x = _; rw [List.foldl_cons, mn_self]; rfl

def toS (x : Int × Nat) : S77 := ⟨x.1, (x.2 : Int)⟩
theorem rdT_last (r : List (Int × Nat)) (y : Int) (c : Nat) : rd_T77 ((r ++ [(y, c)]).map toS) ((r.length : Nat) : Int) = toS (y, c) := by
  simp [rd_T77]
theorem refruns_l0 (l : List Int) (hn : l.length ≤ 65536) : ∀ (d i : Nat), l.length = i + d → ∀ (r : List (Int × Nat)) (y : Int) (c : Nat), 1 ≤ c → c ≤ i → r.length ≤ i →
    Ev (fun k => estreatref09_Runs.l0 k l ((r ++ [(y, c)]).map toS) i) ((r ++ runsOf (List.replicate c y ++ l.drop i)).map toS) := by
  intro d
  induction d with
  | zero =>
    intro i hd r y c hc hci hr
    obtain ⟨c, rfl⟩ : ∃ m, c = m + 1 := ⟨c - 1, by omega⟩
    rw [List.drop_of_length_le (by omega), runsOf_run y [] (by simp) c]
    refine Ev.step (f := fun _ => some ((r ++ [(y, c + 1)]).map toS)) (fun k => ?_) (Ev.now _)
    simp only [estreatref09_Runs.l0]
    rw [if_neg (by omega)]
  | succ d ih =>
    intro i hd r y c hc hci hr
    have hlen : ((r ++ [(y, c)]).map toS).length = r.length + 1 := by simp
    have e1 : wrap64 ((((r ++ [(y, c)]).map toS).length : Int) - 1) = (r.length : Int) := by rw [hlen, w64 (by omega) (by omega)]; omega
    have hil : i < l.length := by omega
    have hrd : rd l (i : Int) = l[i] := rd_get hil
    by_cases he : y = l[i]
    · have hset : ((r ++ [(y, c)]).map toS).set r.length (⟨y, wrap64 ((c : Int) + 1)⟩ : S77) = (r ++ [(y, c + 1)]).map toS := by
        rw [w64 (by omega) (by omega)]
        simp [toS]
      have hrep : List.replicate c y ++ l.drop i = List.replicate (c + 1) y ++ l.drop (i + 1) := by
        rw [dropc l i hil, ← he, List.replicate_succ', List.append_assoc]; rfl
      rw [hrep]
      refine Ev.step (fun k => ?_) (ih (i + 1) (by omega) r y (c + 1) (by omega) (by omega) (by omega))
      simp only [estreatref09_Runs.l0]
      rw [if_pos (by omega), if_pos (by omega), e1, if_pos (by omega), if_pos (by omega), if_pos (by omega), rdT_last, hrd, Int.toNat_natCast]
      show (if y = l[i] then _ else _) = _
      rw [if_pos he]
      show estreatref09_Runs.l0 k l (((r ++ [(y, c)]).map toS).set r.length (⟨y, wrap64 ((c : Int) + 1)⟩ : S77)) (wrap64 ((i : Int) + 1)) = _
      rw [hset, w64 (by omega) (by omega)]; rfl
    · obtain ⟨c, rfl⟩ : ∃ m, c = m + 1 := ⟨c - 1, by omega⟩
      have hrun : runsOf (List.replicate (c + 1) y ++ l.drop i) = (y, c + 1) :: runsOf (List.replicate 1 l[i] ++ l.drop (i + 1)) := by
        rw [runsOf_run y (l.drop i) (fun z r' hz => by rw [dropc l i hil] at hz; injection hz with h1 _; rw [← h1]; exact fun e => he e.symm) c]
        congr 1
        rw [dropc l i hil]; rfl
      have hfin : r ++ runsOf (List.replicate (c + 1) y ++ l.drop i) = (r ++ [(y, c + 1)]) ++ runsOf (List.replicate 1 l[i] ++ l.drop (i + 1)) := by rw [hrun]; simp
      rw [hfin]
      refine Ev.step (fun k => ?_) (ih (i + 1) (by omega) (r ++ [(y, c + 1)]) l[i] 1 (by omega) (by omega) (by simp; omega))
      simp only [estreatref09_Runs.l0]
      rw [if_pos (by omega), if_pos (by omega), e1, if_pos (by omega), if_pos (by omega), if_pos (by omega), rdT_last, hrd]
      show (if y = l[i] then _ else _) = _
      rw [if_neg he, if_pos (by omega), w64 (by omega) (by omega), List.map_append (l₁ := r ++ [(y, c + 1)])]; rfl
theorem refruns_f (l : List Int) (hn : l.length ≤ 65536) : Ev (fun k => estreatref09_Runs.f k l) ((runsOf l).map toS) := by
  unfold estreatref09_Runs.f
  cases l with
  | nil =>
    refine Ev.step (f := fun _ => some []) (fun k => ?_) (Ev.now _)
    simp only [estreatref09_Runs.l0]
    rw [if_neg (by simp)]
  | cons x l =>
    have := refruns_l0 (x :: l) hn l.length 1 (by simp; omega) [] x 1 (by omega) (by omega) (by simp)
    refine Ev.step (fun k => ?_) this
    have hrd : rd (x :: l) 0 = x := rfl
    simp only [estreatref09_Runs.l0]
    rw [if_pos (by simp only [List.length_cons]; omega), if_neg (by decide), if_pos (by decide), if_pos (by decide), hrd, w64 (by decide) (by decide)]; rfl
theorem rdT_at (rs : List (Int × Nat)) (i : Nat) (h : i < rs.length) : rd_T77 (rs.map toS) (i : Int) = toS rs[i] := by
  simp [rd_T77, h]
theorem refput_l0 (rs : List (Int × Nat)) (hn : rs.length ≤ 65536) (hr : ∀ x ∈ rs, (-9223372036854775808 ≤ x.1 ∧ x.1 ≤ 9223372036854775807) ∧ 1 ≤ x.2 ∧ x.2 ≤ 65536) :
    ∀ (d i : Nat) (out : List Int), rs.length = i + d → out.length ≤ 20 * i → Ev (fun k => estreatref09_Put.l0 k out (rs.map toS) i) (out ++ runForm (rs.drop i)) := by
  intro d
  induction d with
  | zero =>
    intro i out hd ho
    have e : out ++ runForm (rs.drop i) = out := by rw [List.drop_of_length_le (by omega)]; simp [runForm]
    rw [e]
    refine Ev.step (f := fun _ => some out) (fun k => ?_) (Ev.now _)
    simp only [estreatref09_Put.l0]
    rw [if_neg (by rw [List.length_map]; omega)]
  | succ d ih =>
    intro i out hd ho
    have hi : i < rs.length := by omega
    have hx := hr rs[i] (List.getElem_mem hi)
    have hz := zz_range hx.1.1 hx.1.2
    have h1 := leb_length10 (v := (rs[i]).2 - 1) (by omega)
    have h2 := leb_length10 (v := (zz (rs[i]).1).toNat) (by omega)
    have hfin : out ++ runForm (rs.drop i) = (out ++ leb ((rs[i]).2 - 1) ++ leb (zz (rs[i]).1).toNat) ++ runForm (rs.drop (i + 1)) := by
      have ec : ∀ (x : Int × Nat) (r : List (Int × Nat)), runForm (x :: r) = leb (x.2 - 1) ++ leb (zz x.1).toNat ++ runForm r := fun x r => by simp [runForm]
      rw [dropc rs i hi, ec, List.append_assoc, List.append_assoc, List.append_assoc]
    rw [hfin]
    have hsub : IntKind.u64.wrap (wrap64 ((((rs[i]).2 : Nat) : Int) - 1)) = (((rs[i]).2 - 1 : Nat) : Int) := by
      rw [w64 (by omega) (by omega), u64w_id (by omega) (by omega)]; omega
    have hv1 : Ev (fun k => estreatref01_Var.f k (((rs[i]).2 - 1 : Nat) : Int)) (leb ((rs[i]).2 - 1)) := ⟨10, fun k hk => by
      have := refvar (v := (((rs[i]).2 - 1 : Nat) : Int)) (k := k) (by omega) (by omega) hk
      rw [Int.toNat_natCast] at this; exact this⟩
    have hv2 : Ev (fun k => estreatref01_Var.f k (zz (rs[i]).1)) (leb (zz (rs[i]).1).toNat) := ⟨10, fun k hk => refvar hz.1 hz.2 hk⟩
    have hrec := ih (i + 1) (out ++ leb ((rs[i]).2 - 1) ++ leb (zz (rs[i]).1).toNat) (by omega) (by simp only [List.length_append]; omega)
    have c1 : (i : Int) < (((rs.map toS).length : Nat) : Int) := by rw [List.length_map]; omega
    have c2 : 0 ≤ (i : Int) := Int.natCast_nonneg _
    have e84 : rd_T77 (rs.map toS) (i : Int) = (⟨(rs[i]).1, ((rs[i]).2 : Int)⟩ : S77) := rdT_at rs i hi
    refine Ev.step (f := fun k => (estreatref01_Var.f k (((rs[i]).2 - 1 : Nat) : Int)).bind fun t148 => (if out.length + t148.length < 140737488355328 then ((some (out ++ t148 : List Int)).bind fun y151 => ((some (zz (rs[i]).1)).bind fun t155 => ((estreatref01_Var.f k t155).bind fun t156 => (if y151.length + t156.length < 140737488355328 then (estreatref09_Put.l0 k (y151 ++ t156) (rs.map toS) (wrap64 ((i : Int) + 1))) else (none))))) else (none))) (fun k => ?_) ?_
    · simp only [estreatref09_Put.l0]
      rw [if_pos c1, if_pos c2, e84]
      simp only [hsub, refzig_f hx.1.1 hx.1.2]
    · refine Ev.bind hv1 ?_
      have i1 : out.length + (leb ((rs[i]).2 - 1)).length < 140737488355328 := by omega
      simp only [if_pos i1]
      refine Ev.bind (Ev.now _) ?_
      refine Ev.bind (Ev.now _) ?_
      refine Ev.bind hv2 ?_
      have i2 : (out ++ leb ((rs[i]).2 - 1)).length + (leb (zz (rs[i]).1).toNat).length < 140737488355328 := by rw [List.length_append]; omega
      simp only [if_pos i2]
      rw [w64 (by omega) (by omega)]
      exact hrec

end Go.Proofs.YtefcchpjbojdkaaGreatDoor.Pure
