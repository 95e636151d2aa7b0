/- What the ways put, in plain words. -/
import Derived.Test.YtehbkhddbdgbcaaGreatDoorPChunkBackx4
import Derived.Test.YtehbkhddbdgbcaaGreatDoorPChunkBackx9
import Derived.Test.YtehbkhddbdgbcaaGreatDoorPChunkBackx12
import Derived.Test.YtehbkhddbdgbcaaGreatDoorPChunkBackx13
import Derived.Lib.Zigzag
import Derived.Lib.BitFns
namespace Go.Proofs.YtehbkhddbdgbcaaGreatDoor.Pure
open Go.RowKit Go.Proofs.YtehbkhddbdgbcaaGreatDoor.PChunkBack Go.Proofs.YtehbkhddbdgbcaaGreatDoorW.PrintWords Go.Proofs.YtehbkhddbdgbcaaGreatDoorW.PrintLast Go.Proofs.YtehbkhddbdgbcaaGreatDoorW.PrintMore
set_option linter.unusedVariables false
set_option linter.unusedSimpArgs false
def leN : List Int → Nat
  | [] => 0
  | x :: xs => x.toNat + 256 * leN xs
def digs : Nat → Nat → List Int
  | 0, _ => []
  | s + 1, N => ((N % 256 : Nat) : Int) :: digs s (N / 256)
def Bytes (xs : List Int) : Prop := ∀ x ∈ xs, 0 ≤ x ∧ x < 256
theorem digs_length : ∀ s N, (digs s N).length = s := by
  intro s; induction s with
  | zero => intro N; rfl
  | succ s ih => intro N; simp [digs, ih]
theorem digs_leN : ∀ (xs : List Int), Bytes xs → digs xs.length (leN xs) = xs := by
  intro xs; induction xs with
  | nil => intro _; rfl
  | cons x xs ih =>
    intro h
    have hx := h x (by simp)
    have := ih (fun y hy => h y (by simp [hy]))
    simp only [List.length_cons, digs, leN]
    have e1 : (x.toNat + 256 * leN xs) % 256 = x.toNat := by omega
    have e2 : (x.toNat + 256 * leN xs) / 256 = leN xs := by omega
    rw [e1, e2, this, Int.toNat_of_nonneg hx.1]
theorem leN_set : ∀ (xs : List Int) (q : Nat) (v d : Int) (h : q < xs.length), 0 ≤ xs[q] → 0 ≤ d → v = xs[q] + d → leN (xs.set q v) = leN xs + 256 ^ q * d.toNat := by
  intro xs; induction xs with
  | nil => intro q v d h; simp at h
  | cons x xs ih =>
    intro q v d h h0 hd hv
    cases q with
    | zero =>
      simp only [List.getElem_cons_zero] at h0 hv
      simp only [List.set_cons_zero, leN, Nat.pow_zero, Nat.one_mul]; omega
    | succ q =>
      simp only [List.getElem_cons_succ] at h0 hv
      have := ih q v d (by simpa using h) h0 hd hv
      simp only [List.set_cons_succ, leN, this, Nat.pow_succ, Nat.mul_add]
      have : 256 * (256 ^ q * d.toNat) = 256 ^ q * 256 * d.toNat := by rw [Nat.mul_comm (256 ^ q) 256, Nat.mul_assoc]
      omega
theorem leN_at : ∀ (xs : List Int) (q : Nat) (h : q < xs.length), Bytes xs → (xs[q]).toNat = leN xs / 256 ^ q % 256 := by
  intro xs; induction xs with
  | nil => intro q h; simp at h
  | cons x xs ih =>
    intro q h hb
    have hx := hb x (by simp)
    cases q with
    | zero => simp only [List.getElem_cons_zero, leN, Nat.pow_zero, Nat.div_one]; omega
    | succ q =>
      have := ih q (by simpa using h) (fun y hy => hb y (by simp [hy]))
      simp only [List.getElem_cons_succ, leN, this, Nat.pow_succ]
      rw [Nat.mul_comm (256 ^ q) 256, ← Nat.div_div_eq_div_mul]
      have e : (x.toNat + 256 * leN xs) / 256 = leN xs := by omega
      rw [e]
theorem leN_zeros : ∀ n, leN (List.replicate n 0) = 0 := by
  intro n; induction n with
  | zero => rfl
  | succ n ih => simp [List.replicate_succ, leN, ih]
/-- numbers of w bits each as one number -/
def numN (w : Nat) : List Int → Nat
  | [] => 0
  | x :: xs => x.toNat + 2 ^ w * numN w xs
theorem numN_append (w : Nat) : ∀ (xs ys : List Int), numN w (xs ++ ys) = numN w xs + 2 ^ (w * xs.length) * numN w ys := by
  intro xs; induction xs with
  | nil => intro ys; simp [numN]
  | cons x xs ih =>
    intro ys
    simp only [List.cons_append, numN, ih, List.length_cons, Nat.mul_add, Nat.mul_one, Nat.pow_add]
    have : 2 ^ w * (2 ^ (w * xs.length) * numN w ys) = 2 ^ (w * xs.length) * 2 ^ w * numN w ys := by rw [Nat.mul_comm (2 ^ (w * xs.length)) (2 ^ w), Nat.mul_assoc]
    omega
theorem numN_lt (w : Nat) : ∀ (xs : List Int), (∀ x ∈ xs, x.toNat < 2 ^ w) → numN w xs < 2 ^ (w * xs.length) := by
  intro xs; induction xs with
  | nil => intro _; simp [numN]
  | cons x xs ih =>
    intro h
    have hx := h x (by simp)
    have := ih (fun y hy => h y (by simp [hy]))
    simp only [numN, List.length_cons, Nat.mul_add, Nat.mul_one, Nat.pow_add]
    have : 2 ^ w * (numN w xs + 1) ≤ 2 ^ w * 2 ^ (w * xs.length) := Nat.mul_le_mul_left _ (by omega)
    rw [Nat.mul_add, Nat.mul_one, Nat.mul_comm (2 ^ w) (2 ^ (w * xs.length))] at this
    omega
def sizeN (n w : Nat) : Nat := (n * w + 7) / 8
def okSize (n w : Int) : Prop := 0 ≤ n ∧ n ≤ 65536 ∧ 0 ≤ w ∧ w ≤ 64
instance (n w : Int) : Decidable (okSize n w) := inferInstanceAs (Decidable (_ ∧ _))
theorem mul_le_64 {n w : Int} (h : okSize n w) : 0 ≤ n * w ∧ n * w ≤ 65536 * 64 :=
  ⟨Int.mul_nonneg h.1 h.2.2.1, Int.le_trans (Int.mul_le_mul_of_nonneg_right h.2.1 h.2.2.1) (Int.mul_le_mul_of_nonneg_left h.2.2.2 (by decide))⟩
theorem size_f (n w : Int) : bits_Size.f n w = some (if okSize n w then ((sizeN n.toNat w.toNat : Nat) : Int) else -1) := by
  unfold bits_Size.f
  by_cases h : okSize n w
  · have hm := mul_le_64 h
    have hh := h
    obtain ⟨h1, h2, h3, h4⟩ := hh
    rw [if_neg (by omega), if_neg (by omega), if_neg (by omega), if_neg (by omega), if_pos h, w64 (n := n * w) (by omega) (by omega), w64 (n := n * w + 7) (by omega) (by omega), Int.tdiv_eq_ediv_of_nonneg (by omega), w64 (by omega) (by omega)]
    have e : n * w = ((n.toNat * w.toNat : Nat) : Int) := by
      rw [Int.natCast_mul, Int.toNat_of_nonneg h1, Int.toNat_of_nonneg h3]
    unfold sizeN; rw [e]; congr 1
  · rw [if_neg h]
    unfold okSize at h
    by_cases c1 : n < 0
    · rw [if_pos c1]
    rw [if_neg c1]
    by_cases c2 : n > 65536
    · rw [if_pos c2]
    rw [if_neg c2]
    by_cases c3 : w < 0
    · rw [if_pos c3]
    rw [if_neg c3]
    by_cases c4 : w > 64
    · rw [if_pos c4]
    exact absurd ⟨by omega, by omega, by omega, by omega⟩ h
theorem shr64 {x : Int} {n : Nat} (h0 : 0 ≤ x) (h1 : x < 18446744073709551616) : shr .u64 x n = ((x.toNat / 2 ^ n : Nat) : Int) := by
  obtain ⟨a, rfl⟩ := Int.eq_ofNat_of_zero_le h0
  have ha : a < 2 ^ 64 := by omega
  unfold shr
  have hb : IntKind.u64.bits = 64 := rfl
  rw [hb]
  show (a : Int) / 2 ^ min (n : Int).toNat 64 = _
  rw [Int.toNat_natCast]
  by_cases h : n ≤ 64
  · rw [Nat.min_eq_left h]; simp
  · rw [Nat.min_eq_right (by omega)]
    have h64 : (2 : Nat) ^ 64 ≤ 2 ^ n := Nat.pow_le_pow_right (by decide) (by omega)
    have e1 : a / 2 ^ n = 0 := Nat.div_eq_of_lt (by omega)
    have e2 : a / 2 ^ 64 = 0 := Nat.div_eq_of_lt ha
    have : ((a / 2 ^ 64 : Nat) : Int) = (a : Int) / 2 ^ 64 := by simp
    rw [Int.toNat_natCast, e1, ← this, e2]
theorem fits_f {v w : Int} (h0 : 0 ≤ v) (h1 : v < 18446744073709551616) (hw0 : 0 ≤ w) (hw : w ≤ 64) : bits_fits.f v w = some (decide (v.toNat < 2 ^ w.toNat)) := by
  obtain ⟨n, rfl⟩ := Int.eq_ofNat_of_zero_le hw0
  unfold bits_fits.f
  by_cases c : (n : Int) = 64
  · rw [if_pos c]
    have : n = 64 := by omega
    subst this
    rw [decide_eq_true]; simp; omega
  · rw [if_neg c, u64w_id (by omega) (by omega), if_pos (by omega), shr64 h0 h1]
    congr 1
    rw [Int.toNat_natCast, Bool.eq_iff_iff]
    simp only [beq_iff_eq, decide_eq_true_eq]
    constructor
    · intro h
      have h2 : v.toNat / 2 ^ n = 0 := by omega
      rcases Nat.div_eq_zero_iff.1 h2 with h3 | h3
      · exact absurd h3 (Nat.ne_of_gt (Nat.two_pow_pos n))
      · exact h3
    · intro h
      rw [Nat.div_eq_of_lt h]; rfl
theorem pow8 (q r : Nat) : 2 ^ (8 * q + r) = 256 ^ q * 2 ^ r := by rw [Nat.pow_add, Nat.pow_mul]
theorem pack_step (S v q r take : Nat) (hr : r < 8) (ht : take ≤ 8 - r) (hc : take = 8 - r ∨ v < 2 ^ take) :
    S + 256 ^ q * (v * 2 ^ r % 256) + (v / 2 ^ take) * 2 ^ (8 * q + r + take) = S + v * 2 ^ (8 * q + r) := by
  rw [show 8 * q + r + take = 8 * q + (r + take) by omega, pow8, pow8]
  have key : v * 2 ^ r % 256 + (v / 2 ^ take) * 2 ^ (r + take) = v * 2 ^ r := by
    rcases hc with h | h
    · subst h
      have e : r + (8 - r) = 8 := by omega
      rw [e]
      have e2 : v * 2 ^ r / 256 = v / 2 ^ (8 - r) := by
        have : (256 : Nat) = 2 ^ (8 - r) * 2 ^ r := by rw [← Nat.pow_add, show 8 - r + r = 8 by omega]
        rw [this, Nat.mul_div_mul_right _ _ (Nat.two_pow_pos r)]
      rw [← e2]
      have := Nat.mod_add_div (v * 2 ^ r) 256
      omega
    · have e : v / 2 ^ take = 0 := Nat.div_eq_of_lt h
      rw [e, Nat.zero_mul, Nat.add_zero]
      apply Nat.mod_eq_of_lt
      have h1 : v * 2 ^ r < 2 ^ take * 2 ^ r := Nat.mul_lt_mul_of_pos_right h (Nat.two_pow_pos r)
      rw [← Nat.pow_add] at h1
      have h2 : 2 ^ (take + r) ≤ 2 ^ 8 := Nat.pow_le_pow_right (by decide) (by omega)
      omega
  have : (v / 2 ^ take) * (256 ^ q * 2 ^ (r + take)) = 256 ^ q * ((v / 2 ^ take) * 2 ^ (r + take)) := by rw [← Nat.mul_assoc, Nat.mul_comm (v / 2 ^ take), Nat.mul_assoc]
  rw [this, Nat.add_assoc, ← Nat.mul_add, key, ← Nat.mul_assoc, Nat.mul_comm (256 ^ q) v, Nat.mul_assoc]
theorem or_u8 {a b : Int} {r : Nat} (hr : r < 8) (ha0 : 0 ≤ a) (ha : a.toNat < 2 ^ r) (hb0 : 0 ≤ b) (hb : b < 256) (hd : b.toNat % 2 ^ r = 0) : bits .or .u8 a b = a + b := by
  obtain ⟨m, rfl⟩ := Int.eq_ofNat_of_zero_le ha0
  obtain ⟨n, rfl⟩ := Int.eq_ofNat_of_zero_le hb0
  simp only [Int.toNat_natCast] at ha hd
  have h8 : 2 ^ r ≤ 2 ^ 8 := Nat.pow_le_pow_right (by decide) (by omega)
  rw [(bits_nat .u8 8 (by decide) wraps_u8 m n (by omega) (by omega)).2, Nat.or_comm]
  have hq : n = 2 ^ r * (n / 2 ^ r) := by have := Nat.div_add_mod n (2 ^ r); omega
  rw [hq, ← Nat.two_pow_add_eq_or_of_lt ha (n / 2 ^ r), Int.natCast_add]; omega
theorem shl8 {x : Int} {r : Nat} (h0 : 0 ≤ x) (hr : r < 8) : shl .u8 (x % 256) r = ((x.toNat * 2 ^ r % 256 : Nat) : Int) := by
  obtain ⟨a, rfl⟩ := Int.eq_ofNat_of_zero_le h0
  unfold shl
  have hb : IntKind.u8.bits = 8 := rfl
  rw [hb, Int.toNat_natCast, Nat.min_eq_left (by omega), IntKind.wrap_u8]
  rw [Int.toNat_natCast, Int.mul_emod, Int.emod_emod, ← Int.mul_emod]; simp
theorem pack_byte (out : List Int) (q r v take : Nat) (hr : r < 8) (hqlen : q < out.length) (hb : Bytes out) (hN : leN out < 2 ^ (8 * q + r)) (hcase : take = 8 - r ∨ v < 2 ^ take) :
    ∃ d : Nat, d = v * 2 ^ r % 256 ∧ bits .or .u8 (out[q]) ((d : Nat) : Int) = out[q] + (d : Int) ∧ Bytes (out.set q (out[q] + (d : Int))) ∧ leN (out.set q (out[q] + (d : Int))) = leN out + 256 ^ q * d ∧ leN (out.set q (out[q] + (d : Int))) < 2 ^ (8 * q + r + take) := by
      have hbq := hb out[q] (List.getElem_mem hqlen)
      -- the byte that is turned
      have hat := leN_at out q hqlen hb
      have hsmall : (out[q]).toNat < 2 ^ r := by
        rw [hat]
        have : leN out / 256 ^ q < 2 ^ r := by
          rw [Nat.div_lt_iff_lt_mul (Nat.pow_pos (by decide)), Nat.mul_comm, ← pow8]; exact hN
        exact Nat.lt_of_le_of_lt (Nat.mod_le _ _) this
      have hd0 : v * 2 ^ r % 256 % 2 ^ r = 0 := by
        have : (256 : Nat) = 2 ^ r * 2 ^ (8 - r) := by rw [← Nat.pow_add, show r + (8 - r) = 8 by omega]
        rw [this, Nat.mod_mul_right_mod, Nat.mul_mod_left]
      obtain ⟨d, hd⟩ : ∃ d : Nat, d = v * 2 ^ r % 256 := ⟨_, rfl⟩
      have hd256 : d < 256 := by rw [hd]; exact Nat.mod_lt _ (by decide)
      have hor : bits .or .u8 (out[q]) ((d : Nat) : Int) = out[q] + (d : Int) := by
        refine or_u8 hr hbq.1 hsmall (by omega) (by omega) ?_
        rw [Int.toNat_natCast, hd]; exact hd0
      have hsum : out[q] + (d : Int) < 256 := by
        have h1 : (out[q]).toNat < 2 ^ r := hsmall
        have h2 : d = 2 ^ r * (d / 2 ^ r) := by have := Nat.div_add_mod d (2 ^ r); rw [← hd] at hd0; omega
        have h3 : d / 2 ^ r < 2 ^ (8 - r) := by
          rw [Nat.div_lt_iff_lt_mul (Nat.two_pow_pos r), ← Nat.pow_add, show 8 - r + r = 8 by omega]; exact hd256
        have h4 : 2 ^ r * (d / 2 ^ r + 1) ≤ 2 ^ r * 2 ^ (8 - r) := Nat.mul_le_mul_left _ h3
        rw [← Nat.pow_add, show r + (8 - r) = 8 by omega, Nat.mul_add, Nat.mul_one, ← h2] at h4
        omega
      have hset : leN (out.set q (out[q] + (d : Int))) = leN out + 256 ^ q * d := by
        have := leN_set out q (out[q] + (d : Int)) (d : Int) hqlen hbq.1 (by omega) rfl
        rw [Int.toNat_natCast] at this; exact this
      have hbytes : Bytes (out.set q (out[q] + (d : Int))) := by
        intro x hx
        rcases List.mem_or_eq_of_mem_set hx with h | h
        · exact hb x h
        · omega
      have hNew : leN (out.set q (out[q] + (d : Int))) < 2 ^ (8 * q + r + take) := by
        rw [hset, show 8 * q + r + take = 8 * q + (r + take) by omega, pow8]
        have h1 : leN out < 256 ^ q * 2 ^ r := by rw [← pow8]; exact hN
        have h2 : d + 2 ^ r ≤ 2 ^ (r + take) := by
          have g2 : d = 2 ^ r * (d / 2 ^ r) := by have := Nat.div_add_mod d (2 ^ r); rw [← hd] at hd0; omega
          have g3 : d / 2 ^ r < 2 ^ take := by
            rcases hcase with hc | hc
            · rw [hc, Nat.div_lt_iff_lt_mul (Nat.two_pow_pos r), ← Nat.pow_add, show 8 - r + r = 8 by omega]; exact hd256
            · have : d ≤ v * 2 ^ r := by rw [hd]; exact Nat.mod_le _ _
              rw [Nat.div_lt_iff_lt_mul (Nat.two_pow_pos r)]
              exact Nat.lt_of_le_of_lt this (Nat.mul_lt_mul_of_pos_right hc (Nat.two_pow_pos r))
          have g4 : 2 ^ r * (d / 2 ^ r + 1) ≤ 2 ^ r * 2 ^ take := Nat.mul_le_mul_left _ g3
          rw [← Nat.pow_add, Nat.mul_add, Nat.mul_one, ← g2] at g4
          exact g4
        have h3 : 256 ^ q * (d + 2 ^ r) ≤ 256 ^ q * 2 ^ (r + take) := Nat.mul_le_mul_left _ h2
        rw [Nat.mul_add] at h3
        omega
      exact ⟨d, hd, hor, hbytes, hset, hNew⟩
theorem n64 {v : Nat} (h : v < 18446744073709551616) : (v : Int) < 18446744073709551616 := by omega
theorem pk_q {q r left ol : Nat} (hlen : 8 * q + r + left ≤ 8 * ol) (hol : ol < 10000000) : q < 10000000 := by omega
theorem pk_ql {q r left ol : Nat} (hlen : 8 * q + r + left ≤ 8 * ol) (hz : ¬ left = 0) : q < ol := by omega
theorem pk_case {r left take : Nat} (h : take = min (8 - r) left) : take = 8 - r ∨ take = left := by omega
theorem pk_tl {r left take : Nat} (h : take = min (8 - r) left) : take ≤ left ∧ take ≤ 8 - r := by omega
theorem pk_e1 (q r : Nat) (hr : r < 8) (hq : q < 100000000) : wrap64 (Int.tdiv ((8 * q + r : Nat) : Int) 8) = (q : Int) := by
  have h : Int.tdiv ((8 * q + r : Nat) : Int) 8 = (q : Int) := by
    rw [Int.tdiv_eq_ediv_of_nonneg (Int.natCast_nonneg _)]; omega
  rw [h, w64 (by omega) (by omega)]
theorem pk_e2 (q r : Nat) (hr : r < 8) : Int.tmod ((8 * q + r : Nat) : Int) 8 = (r : Int) := by
  rw [Int.tmod_eq_emod_of_nonneg (Int.natCast_nonneg _)]; omega
theorem pk_e3 (r left take : Nat) (hr : r < 8) (h : take = min (8 - r) left) : mn (wrap64 (8 - (r : Int))) (left : Int) = (take : Int) := by
  rw [w64 (by omega) (by omega)]; unfold mn; split <;> omega
theorem pk_small (q r left take m q' r' ol : Nat) (hr : r < 8) (hq : q < 10000000) (hm : left ≤ m + 1) (h64 : left ≤ 64) (htk : take = min (8 - r) left) (hz : ¬ left = 0) (hqr : 8 * q + r + take = 8 * q' + r') (hr' : r' < 8) (hlen : 8 * q + r + left ≤ 8 * ol) (hol : ol < 10000000) :
    left - take ≤ m ∧ left - take ≤ 64 ∧ q' ≤ ol ∧ 8 * q' + r' + (left - take) ≤ 8 * ol ∧ 8 * q' + r' + (left - take) = 8 * q + r + left ∧ (left : Int) > 0 ∧ 0 ≤ (q : Int) ∧ (q : Int) < (ol : Int) ∧ IntKind.u64.wrap (r : Int) = (r : Int) ∧ 0 ≤ (r : Int) ∧ IntKind.u64.wrap (take : Int) = (take : Int) ∧ 0 ≤ (take : Int) ∧
    wrap64 (((8 * q + r : Nat) : Int) + (take : Int)) = ((8 * q' + r' : Nat) : Int) ∧ wrap64 ((left : Int) - (take : Int)) = ((left - take : Nat) : Int) := by
  refine ⟨by omega, by omega, by omega, by omega, by omega, by omega, by omega, by omega, u64w_id (by omega) (by omega), by omega, u64w_id (by omega) (by omega), by omega, ?_, ?_⟩
  · rw [w64 (by omega) (by omega)]; omega
  · rw [w64 (by omega) (by omega)]; omega
theorem pack_l1 (w : Int) (L : List Int) (n i : Int) : ∀ (m left : Nat) (out : List Int) (q r : Nat) (v : Nat), left ≤ m → left ≤ 64 → r < 8 → out.length < 10000000 → v < 2 ^ left → v < 18446744073709551616 → Bytes out → leN out < 2 ^ (8 * q + r) → 8 * q + r + left ≤ 8 * out.length →
    ∃ out', Bytes out' ∧ out'.length = out.length ∧ leN out' = leN out + v * 2 ^ (8 * q + r) ∧ ∀ res, Ev (fun k => bits_Pack.l0 k w out' ((8 * q + r + left : Nat) : Int) L n (wrap64 (i + 1))) res → Ev (fun k => bits_Pack.l1 k w out ((8 * q + r : Nat) : Int) v left L n i) res := by
  intro m
  induction m with
  | zero =>
    intro left out q r v hm h64 hr hol hv hv64 hb hN hlen
    have hl : left = 0 := by omega
    subst hl
    have hv0 : v = 0 := by simpa using hv
    subst hv0
    refine ⟨out, hb, rfl, by simp, ?_⟩
    intro res h
    refine Ev.step (f := fun k => bits_Pack.l0 k w out ((8 * q + r + 0 : Nat) : Int) L n (wrap64 (i + 1))) (fun k => ?_) h
    simp only [bits_Pack.l1]
    rw [if_neg (by omega), Nat.add_zero]
  | succ m ih =>
    intro left out q r v hm h64 hr hol hv hv64 hb hN hlen
    by_cases hz : left = 0
    · subst hz
      have hv0 : v = 0 := by simpa using hv
      subst hv0
      refine ⟨out, hb, rfl, by simp, ?_⟩
      intro res h
      refine Ev.step (f := fun k => bits_Pack.l0 k w out ((8 * q + r + 0 : Nat) : Int) L n (wrap64 (i + 1))) (fun k => ?_) h
      simp only [bits_Pack.l1]
      rw [if_neg (by omega), Nat.add_zero]
    · obtain ⟨take, htk⟩ : ∃ t, t = min (8 - r) left := ⟨_, rfl⟩
      obtain ⟨htl, ht8⟩ := pk_tl htk
      have hqlen : q < out.length := pk_ql hlen hz
      have hbq := hb out[q] (List.getElem_mem hqlen)
      have e1 := pk_e1 q r hr (Nat.lt_trans (pk_q hlen hol) (by decide))
      have e2 := pk_e2 q r hr
      have e3 := pk_e3 r left take hr htk
      obtain ⟨q', r', hqr, hr'⟩ : ∃ q' r', 8 * q + r + take = 8 * q' + r' ∧ r' < 8 := ⟨(8 * q + r + take) / 8, (8 * q + r + take) % 8, (Nat.div_add_mod _ 8).symm, Nat.mod_lt _ (by decide)⟩
      obtain ⟨g1, g2, g3, g4, g5, p1, p2, p3, p4, p5, p6, p7, t1, t2⟩ := pk_small q r left take m q' r' out.length hr (pk_q hlen hol) hm h64 htk hz hqr hr' hlen hol
      have hcase : take = 8 - r ∨ v < 2 ^ take := (pk_case htk).imp id (fun h => by rw [h]; exact hv)
      obtain ⟨d, hd, hor, hbytes, hset, hNew⟩ := pack_byte out q r v take hr hqlen hb hN hcase
      have hstep := pack_step (leN out) v q r take hr ht8 hcase
      have hvdiv : v / 2 ^ take < 2 ^ (left - take) := by
        rw [Nat.div_lt_iff_lt_mul (Nat.two_pow_pos take), ← Nat.pow_add, Nat.sub_add_cancel htl]; exact hv
      obtain ⟨out', hb', hl', hN', hgo⟩ := ih (left - take) (out.set q (out[q] + (d : Int))) q' r' (v / 2 ^ take) g1 g2 hr' (by rw [List.length_set]; exact hol) hvdiv (Nat.lt_of_le_of_lt (Nat.div_le_self _ _) hv64) hbytes (by rw [← hqr]; exact hNew) (by rw [List.length_set]; exact g4)
      refine ⟨out', hb', by rw [hl', List.length_set], ?_, ?_⟩
      · rw [hN', hset, ← hqr, hd]; exact hstep
      · intro res h
        refine Ev.step (fun k => ?_) (hgo res (by rw [g5]; exact h))
        simp only [bits_Pack.l1]
        rw [if_pos p1, e1, if_pos p2, if_pos p3, e2, p4, if_pos p5, e3, p6, if_pos p7]
        have s2 : shl .u8 ((v : Int) % 256) (r : Int) = ((d : Nat) : Int) := by rw [shl8 (Int.natCast_nonneg _) hr, Int.toNat_natCast, hd]
        have s3 : shr .u64 (v : Int) (take : Int) = ((v / 2 ^ take : Nat) : Int) := by rw [shr64 (Int.natCast_nonneg _) (n64 hv64), Int.toNat_natCast]
        rw [rd_get hqlen, s2, s3, hor, Int.toNat_natCast, t1, t2]
theorem pack_l0 (w : Nat) (hw : w ≤ 64) (L : List Int) (hn : L.length ≤ 65536) (hL : ∀ x ∈ L, 0 ≤ x ∧ x < 18446744073709551616 ∧ x.toNat < 2 ^ w) :
    ∀ (d i : Nat) (out : List Int), L.length = i + d → out.length < 10000000 → Bytes out → leN out = numN w (L.take i) → w * L.length ≤ 8 * out.length →
      Ev (fun k => bits_Pack.l0 k w out ((w * i : Nat) : Int) L L.length i) (digs out.length (numN w L), 0) := by
  intro d
  induction d with
  | zero =>
    intro i out hd hol hb hN hlen
    refine Ev.step (f := fun _ => some (digs out.length (numN w L), 0)) (fun k => ?_) (Ev.now _)
    simp only [bits_Pack.l0]
    rw [if_neg (by omega)]
    have : L.take i = L := List.take_of_length_le (by omega)
    rw [this] at hN
    rw [← hN, digs_leN out hb]
  | succ d ih =>
    intro i out hd hol hb hN hlen
    have hx := hL L[i] (List.getElem_mem (by omega))
    have hwi : w * i ≤ 64 * 65536 := Nat.mul_le_mul hw (by omega)
    have hlt : leN out < 2 ^ (w * i) := by
      rw [hN]
      have := numN_lt w (L.take i) (fun x hx => (hL x (List.mem_of_mem_take hx)).2.2)
      rw [List.length_take, Nat.min_eq_left (by omega)] at this; exact this
    have hqr : w * i = 8 * (w * i / 8) + w * i % 8 := by omega
    have hsum : w * i + w ≤ w * L.length := by
      have : w * (i + 1) ≤ w * L.length := Nat.mul_le_mul_left _ (by omega)
      rw [Nat.mul_add, Nat.mul_one] at this; exact this
    obtain ⟨out', hb', hl', hN', hgo⟩ := pack_l1 (w : Int) L L.length i w w out (w * i / 8) (w * i % 8) (L[i]).toNat (Nat.le_refl _) hw (Nat.mod_lt _ (by decide)) hol hx.2.2 (by omega) hb (by rw [← hqr]; exact hlt) (by rw [← hqr]; omega)
    rw [← hqr] at hN' hgo
    have htake : L.take (i + 1) = L.take i ++ [L[i]] := by rw [List.take_succ_eq_append_getElem (by omega)]
    have hrec := ih (i + 1) out' (by omega) (by rw [hl']; exact hol) hb' (by
      rw [hN', htake, numN_append, List.length_take, Nat.min_eq_left (by omega), hN]
      simp only [numN, Nat.mul_zero, Nat.add_zero]; rw [Nat.mul_comm (L[i]).toNat]) (by rw [hl']; exact hlen)
    rw [hl'] at hrec
    refine Ev.step (fun k => ?_) (hgo _ (by
      rw [w64 (by omega) (by omega)]
      have e1 : w * (i + 1) = w * i + w := by rw [Nat.mul_add, Nat.mul_one]
      rw [e1] at hrec
      simp only [Int.natCast_add, Int.natCast_one] at hrec ⊢
      exact hrec))
    simp only [bits_Pack.l0]
    rw [if_pos (by omega), if_pos (by omega), if_pos (by omega), rd_get (by omega), fits_f hx.1 hx.2.1 (by omega) (by omega), Option.bind_some, Int.toNat_natCast, decide_eq_true hx.2.2, if_pos rfl, Int.toNat_of_nonneg hx.1]
/-- a number that doesn't fit -/
theorem pack_l0_bad (w : Nat) (hw : w ≤ 64) (L : List Int) (hn : L.length ≤ 65536) (hL : ∀ x ∈ L, 0 ≤ x ∧ x < 18446744073709551616) :
    ∀ (d i : Nat) (out : List Int), L.length = i + d → (∃ x ∈ L.drop i, ¬ x.toNat < 2 ^ w) → (∀ x ∈ L.take i, x.toNat < 2 ^ w) → out.length < 10000000 → Bytes out → leN out = numN w (L.take i) → w * L.length ≤ 8 * out.length →
      Ev (fun k => bits_Pack.l0 k w out ((w * i : Nat) : Int) L L.length i) ([], 5) := by
  intro d
  induction d with
  | zero =>
    intro i out hd hbad _ _ hb hN hlen
    obtain ⟨x, hx, _⟩ := hbad
    rw [List.drop_of_length_le (by omega)] at hx; simp at hx
  | succ d ih =>
    intro i out hd hbad hgood hol hb hN hlen
    have hx := hL L[i] (List.getElem_mem (by omega))
    by_cases hf : (L[i]).toNat < 2 ^ w
    · have hwi : w * i ≤ 64 * 65536 := Nat.mul_le_mul hw (by omega)
      have hlt : leN out < 2 ^ (w * i) := by
        rw [hN]
        have := numN_lt w (L.take i) hgood
        rw [List.length_take, Nat.min_eq_left (by omega)] at this; exact this
      have hqr : w * i = 8 * (w * i / 8) + w * i % 8 := by omega
      have hsum : w * i + w ≤ w * L.length := by
        have : w * (i + 1) ≤ w * L.length := Nat.mul_le_mul_left _ (by omega)
        rw [Nat.mul_add, Nat.mul_one] at this; exact this
      obtain ⟨out', hb', hl', hN', hgo⟩ := pack_l1 (w : Int) L L.length i w w out (w * i / 8) (w * i % 8) (L[i]).toNat (Nat.le_refl _) hw (Nat.mod_lt _ (by decide)) hol hf (by omega) hb (by rw [← hqr]; exact hlt) (by rw [← hqr]; omega)
      rw [← hqr] at hN' hgo
      have htake : L.take (i + 1) = L.take i ++ [L[i]] := by rw [List.take_succ_eq_append_getElem (by omega)]
      have hrec := ih (i + 1) out' (by omega) (by
          obtain ⟨x, hxd, hxx⟩ := hbad
          have hxd' : x ∈ L[i] :: L.drop (i + 1) := by rw [← dropc L i (by omega)]; exact hxd
          rcases List.mem_cons.1 hxd' with e | h
          · exact absurd (by rw [e]; exact hf) hxx
          · exact ⟨x, h, hxx⟩) (by
          intro x hx
          rw [htake] at hx
          rcases List.mem_append.1 hx with hx | hx
          · exact hgood x hx
          · simp at hx; rw [hx]; exact hf) (by rw [hl']; exact hol) hb' (by
        rw [hN', htake, numN_append, List.length_take, Nat.min_eq_left (by omega), hN]
        simp only [numN, Nat.mul_zero, Nat.add_zero]; rw [Nat.mul_comm (L[i]).toNat]) (by rw [hl']; exact hlen)
      refine Ev.step (fun k => ?_) (hgo _ (by
        rw [w64 (by omega) (by omega)]
        have e1 : w * (i + 1) = w * i + w := by rw [Nat.mul_add, Nat.mul_one]
        rw [e1] at hrec
        simp only [Int.natCast_add, Int.natCast_one] at hrec ⊢
        exact hrec))
      simp only [bits_Pack.l0]
      rw [if_pos (by omega), if_pos (by omega), if_pos (by omega), rd_get (by omega), fits_f hx.1 hx.2 (by omega) (by omega), Option.bind_some, Int.toNat_natCast, decide_eq_true hf, if_pos rfl, Int.toNat_of_nonneg hx.1]
    · refine Ev.step (f := fun _ => some ([], 5)) (fun k => ?_) (Ev.now _)
      simp only [bits_Pack.l0]
      rw [if_pos (by omega), if_pos (by omega), if_pos (by omega), rd_get (by omega), fits_f hx.1 hx.2 (by omega) (by omega), Option.bind_some, Int.toNat_natCast, decide_eq_false hf, if_neg (by decide)]
def fitAll (L : List Int) (w : Nat) : Prop := ∀ x ∈ L, x.toNat < 2 ^ w
instance (L : List Int) (w : Nat) : Decidable (fitAll L w) := inferInstanceAs (Decidable (∀ x ∈ L, x.toNat < 2 ^ w))
def packed (L : List Int) (w : Int) : List Int × Int :=
  if okSize L.length w then (if fitAll L w.toNat then (digs (sizeN L.length w.toNat) (numN w.toNat L), 0) else ([], 5)) else ([], 1)
theorem bytes_zeros (n : Nat) : Bytes (List.replicate n 0) := by intro x hx; rw [(List.mem_replicate.1 hx).2]; decide
theorem pack_f (L : List Int) (w : Int) (hL : ∀ x ∈ L, 0 ≤ x ∧ x < 18446744073709551616) : Ev (fun k => bits_Pack.f k L w) (packed L w) := by
  unfold bits_Pack.f packed
  by_cases ho : okSize L.length w
  · obtain ⟨h1, h2, h3, h4⟩ := id ho
    obtain ⟨m, rfl⟩ := Int.eq_ofNat_of_zero_le h3
    rw [if_pos ho]
    have hs : sizeN L.length m < 10000000 := by
      unfold sizeN
      have : L.length * m ≤ 65536 * 64 := Nat.mul_le_mul (by omega) (by omega)
      omega
    have hle : m * L.length ≤ 8 * sizeN L.length m := by unfold sizeN; rw [Nat.mul_comm m]; omega
    refine Ev.congr (f := fun k => bits_Pack.l0 k m (List.replicate (sizeN L.length m) 0) ((m * 0 : Nat) : Int) L L.length ((0 : Nat) : Int)) (fun k => ?_) ?_
    · rw [size_f, if_pos ho, Option.bind_some, Int.toNat_natCast, if_neg (by omega)]
      simp only [Int.toNat_natCast]
      rw [if_pos (by omega), if_pos (by omega)]; rfl
    · by_cases hf : fitAll L m
      · rw [Int.toNat_natCast, if_pos hf]
        have := pack_l0 m (by omega) L (by omega) (fun x hx => ⟨(hL x hx).1, (hL x hx).2, hf x hx⟩) L.length 0 (List.replicate (sizeN L.length m) 0) (by omega) (by rw [List.length_replicate]; exact hs) (bytes_zeros _) (by simp [leN_zeros, numN]) (by simpa using hle)
        rw [List.length_replicate] at this; exact this
      · rw [Int.toNat_natCast, if_neg hf]
        unfold fitAll at hf
        refine pack_l0_bad m (by omega) L (by omega) hL L.length 0 _ (by omega) ?_ (by simp) (by rw [List.length_replicate]; exact hs) (bytes_zeros _) (by simp [leN_zeros, numN]) (by simpa using hle)
        have hf := Classical.not_forall.1 hf
        obtain ⟨x, hx⟩ := hf
        have hx := Classical.not_imp.1 hx
        exact ⟨x, by simpa using hx.1, hx.2⟩
  · rw [if_neg ho]
    refine Ev.congr (f := fun _ => some ([], 1)) (fun k => ?_) (Ev.now _)
    rw [size_f, if_neg ho, Option.bind_some, if_pos (by decide)]
theorem bitlen_le {v : Nat} (h : v < 18446744073709551616) : Lib.bitLen v ≤ 64 := Lib.bitLen_le v 64 (by decide) (by simpa using h)
def maxW (L : List Int) : Nat := L.foldl (fun a x => max a (Lib.bitLen x.toNat)) 0
theorem pk_no (a b : Nat) : ¬ a + (1 + b) ≤ a := by omega
theorem bitlen_lt {v k : Nat} (h : Lib.bitLen v ≤ k) (hv : v < 18446744073709551616) : v < 2 ^ k := by
  refine Classical.byContradiction fun hc => ?_
  have hk : k ≤ 64 ∨ 64 < k := by omega
  rcases hk with hk | hk
  · have := Lib.bitLen_shift k v (Nat.le_of_not_lt hc) (Nat.lt_of_lt_of_eq hv (by decide))
    have hpos : 1 ≤ v / 2 ^ k := by rw [Nat.le_div_iff_mul_le (Nat.two_pow_pos k), Nat.one_mul]; exact Nat.le_of_not_lt hc
    have h2 : v / 2 ^ k < 2 ^ 64 := Nat.lt_of_le_of_lt (Nat.div_le_self _ _) (Nat.lt_of_lt_of_eq hv (by decide))
    have h3 := Lib.bitLen_half (v / 2 ^ k) (Nat.ne_of_gt hpos) h2
    rw [this, h3] at h
    exact absurd h (pk_no _ _)
  · exact hc (Nat.lt_of_lt_of_le (Nat.lt_of_lt_of_eq hv (by decide : (18446744073709551616 : Nat) = 2 ^ 64)) (Nat.pow_le_pow_right (by decide) (Nat.le_of_lt hk)))
theorem bitlen_iff {v k : Nat} (hv : v < 18446744073709551616) (hk : k ≤ 64) : Lib.bitLen v ≤ k ↔ v < 2 ^ k :=
  ⟨fun h => bitlen_lt h hv, fun h => Lib.bitLen_le v k hk h⟩
theorem bitlen_or {a b : Nat} (ha : a < 18446744073709551616) (hb : b < 18446744073709551616) : Lib.bitLen (a ||| b) = max (Lib.bitLen a) (Lib.bitLen b) := by
  have p64 : (18446744073709551616 : Nat) = 2 ^ 64 := by decide
  have hab : a ||| b < 18446744073709551616 := by rw [p64] at *; exact Nat.or_lt_two_pow ha hb
  apply Nat.le_antisymm
  · have hm : max (Lib.bitLen a) (Lib.bitLen b) ≤ 64 := Nat.max_le.2 ⟨bitlen_le ha, bitlen_le hb⟩
    rw [bitlen_iff hab hm]
    exact Nat.or_lt_two_pow (Nat.lt_of_lt_of_le (bitlen_lt (Nat.le_refl _) ha) (Nat.pow_le_pow_right (by decide) (Nat.le_max_left _ _))) (Nat.lt_of_lt_of_le (bitlen_lt (Nat.le_refl _) hb) (Nat.pow_le_pow_right (by decide) (Nat.le_max_right _ _)))
  · have h := bitlen_lt (Nat.le_refl (Lib.bitLen (a ||| b))) hab
    refine Nat.max_le.2 ⟨(bitlen_iff ha (bitlen_le hab)).2 ?_, (bitlen_iff hb (bitlen_le hab)).2 ?_⟩
    · exact Nat.lt_of_le_of_lt Nat.left_le_or h
    · exact Nat.lt_of_le_of_lt Nat.right_le_or h
theorem bitlen_zero : Lib.bitLen 0 = 0 := by decide
theorem maxW_le : ∀ (L : List Int) (a w : Nat), L.foldl (fun m x => max m (Lib.bitLen x.toNat)) a ≤ w ↔ a ≤ w ∧ ∀ x ∈ L, Lib.bitLen x.toNat ≤ w := by
  intro L; induction L with
  | nil => intro a w; simp
  | cons x L ih => intro a w; rw [List.foldl_cons, ih, Nat.max_le]; simp [and_assoc]
theorem maxW_fit (L : List Int) (w : Nat) (hw : w ≤ 64) (hL : ∀ x ∈ L, 0 ≤ x ∧ x < 18446744073709551616) : maxW L ≤ w ↔ fitAll L w := by
  unfold maxW fitAll
  rw [maxW_le]
  constructor
  · intro h x hx; exact bitlen_lt (h.2 x hx) (by have := hL x hx; omega)
  · intro h; exact ⟨Nat.zero_le _, fun x hx => (bitlen_iff (by have := hL x hx; omega) hw).2 (h x hx)⟩
theorem maxW_64 (L : List Int) (hL : ∀ x ∈ L, 0 ≤ x ∧ x < 18446744073709551616) : maxW L ≤ 64 := by
  unfold maxW
  rw [maxW_le]
  exact ⟨Nat.zero_le _, fun x hx => bitlen_le (by have := hL x hx; omega)⟩
theorem len64_s {v : Int} (h0 : 0 ≤ v) (h1 : v < 18446744073709551616) : bits_Len64.f v = some (Lib.bitLen v.toNat : Int) := by unfold bits_Len64.f; rw [if_pos h0, if_pos (by omega)]
theorem width_l0 (L : List Int) (hn : L.length ≤ 65536) (hL : ∀ x ∈ L, 0 ≤ x ∧ x < 18446744073709551616) :
    ∀ (d k i a : Nat), L.length = i + d → d + 1 < k → a < 18446744073709551616 → bits_Width.l0 k a L L.length i = some ((((L.drop i).foldl (fun m x => max m (Lib.bitLen x.toNat)) (Lib.bitLen a) : Nat)) : Int) := by
  intro d
  induction d with
  | zero =>
    intro k i a hd hk ha
    obtain ⟨k, rfl⟩ : ∃ m, k = m + 1 := ⟨k - 1, by omega⟩
    simp only [bits_Width.l0]
    rw [if_neg (by omega), List.drop_of_length_le (by omega), len64_s (by omega) (by omega), Option.bind_some]; simp
  | succ d ih =>
    intro k i a hd hk ha
    obtain ⟨k, rfl⟩ : ∃ m, k = m + 1 := ⟨k - 1, by omega⟩
    simp only [bits_Width.l0]
    have hx := hL L[i] (List.getElem_mem (by omega))
    have hx2 : (L[i]).toNat < 18446744073709551616 := by omega
    have p64 : (18446744073709551616 : Nat) = 2 ^ 64 := by decide
    have hor : bits .or .u64 (a : Int) (L[i]) = ((a ||| (L[i]).toNat : Nat) : Int) := by
      obtain ⟨y, hy⟩ := Int.eq_ofNat_of_zero_le hx.1
      rw [hy, Int.toNat_natCast]
      exact (bits_nat .u64 64 (by decide) wraps_u64 a y (by rw [← p64]; exact ha) (by rw [← p64]; omega)).2
    rw [if_pos (by omega), if_pos (by omega), if_pos (by omega), rd_get (by omega), hor, w64 (by omega) (by omega)]
    have := ih k (i + 1) (a ||| (L[i]).toNat) (by omega) (by omega) (by rw [p64] at *; exact Nat.or_lt_two_pow ha hx2)
    simp only [Int.natCast_add, Int.natCast_one] at this
    rw [this, dropc L i (by omega), List.foldl_cons, bitlen_or ha hx2]
theorem width_f (L : List Int) (hn : L.length ≤ 65536) (hL : ∀ x ∈ L, 0 ≤ x ∧ x < 18446744073709551616) {k : Nat} (hk : L.length + 1 < k) : bits_Width.f k L = some (maxW L : Int) := by
  unfold bits_Width.f maxW
  have := width_l0 L hn hL L.length k 0 0 (by omega) hk (by omega)
  rw [List.drop_zero, bitlen_zero] at this
  exact this
def plainOf (l : List Int) : List Int := l.flatMap fun n => leb (zz n).toNat
theorem plainOf_cons (x : Int) (l : List Int) : plainOf (x :: l) = leb (zz x).toNat ++ plainOf l := by simp [plainOf]
theorem plainOf_length (l : List Int) (hw : ∀ x ∈ l, -9223372036854775808 ≤ x ∧ x ≤ 9223372036854775807) : (plainOf l).length ≤ 10 * l.length := by
  induction l with
  | nil => simp [plainOf]
  | cons x l ih =>
    have hx := hw x (by simp)
    have hz := zz_range hx.1 hx.2
    have := ih (fun y hy => hw y (by simp [hy]))
    have h10 := leb_length10 (v := (zz x).toNat) (by omega)
    rw [plainOf_cons, List.length_append, List.length_cons]; omega
theorem plainput_l0 (l : List Int) (hn : l.length ≤ 65536) (hw : ∀ x ∈ l, -9223372036854775808 ≤ x ∧ x ≤ 9223372036854775807) :
    ∀ (d k i : Nat) (b : List Int), l.length = i + d → d + 10 < k → b.length ≤ 10 * i → plain_Put.l0 k b l l.length i = some (b ++ plainOf (l.drop i), 0) := by
  intro d
  induction d with
  | zero =>
    intro k i b hd hk hb
    obtain ⟨k, rfl⟩ : ∃ m, k = m + 1 := ⟨k - 1, by omega⟩
    simp only [plain_Put.l0]
    rw [if_neg (by omega), List.drop_of_length_le (by omega)]; simp [plainOf]
  | succ d ih =>
    intro k i b hd hk hb
    obtain ⟨k, rfl⟩ : ∃ m, k = m + 1 := ⟨k - 1, by omega⟩
    simp only [plain_Put.l0]
    have hx := hw l[i] (List.getElem_mem (by omega))
    have hz := zz_range hx.1 hx.2
    have h10 := leb_length10 (v := (zz l[i]).toNat) (by omega)
    rw [if_pos (by omega), if_pos (by omega), if_pos (by omega), rd_get (by omega), zig_f hx.1 hx.2]
    simp only [Option.bind_some]
    rw [putvar_f hz.1 hz.2 (by omega) (by omega)]
    simp only [Option.bind_some]
    rw [w64 (by omega) (by omega)]
    have := ih k (i + 1) (b ++ leb (zz l[i]).toNat) (by omega) (by omega) (by simp; omega)
    simp only [Int.natCast_add, Int.natCast_one] at this
    rw [this, dropc l i (by omega), plainOf_cons, List.append_assoc]
theorem plainput_f (l : List Int) (hn : l.length ≤ 65536) (hw : ∀ x ∈ l, -9223372036854775808 ≤ x ∧ x ≤ 9223372036854775807) {k : Nat} (hk : l.length + 10 < k) : plain_Put.f k l = some (plainOf l, 0) := by
  unfold plain_Put.f
  rw [if_neg (by omega)]
  simpa using plainput_l0 l hn hw l.length k 0 [] (by omega) hk (by simp)
def minOf : List Int → Int
  | [] => 0
  | x :: l => l.foldl mn x
def above (m : Int) (l : List Int) : List Int := l.map fun n => IntKind.u64.wrap (IntKind.u64.wrap n - IntKind.u64.wrap m)
theorem mn_le (x y : Int) : mn x y ≤ x ∧ mn x y ≤ y ∧ (mn x y = x ∨ mn x y = y) := by unfold mn; split <;> omega
theorem foldmn_mem : ∀ (l : List Int) (x : Int), l.foldl mn x = x ∨ l.foldl mn x ∈ l := by
  intro l
  induction l with
  | nil => intro x; exact .inl rfl
  | cons y l ih =>
    intro x
    rw [List.foldl_cons]
    rcases ih (mn x y) with h | h
    · rw [h]
      rcases (mn_le x y).2.2 with h | h
      · exact .inl h
      · exact .inr (by rw [h]; simp)
    · exact .inr (List.mem_cons_of_mem _ h)
theorem minOf_mem {l : List Int} (h : l ≠ []) : minOf l ∈ l := by
  cases l with
  | nil => exact absurd rfl h
  | cons x l =>
    rcases foldmn_mem l x with h | h
    · show l.foldl mn x ∈ _; rw [h]; simp
    · exact List.mem_cons_of_mem _ h
theorem above_u64 (m : Int) (l : List Int) : ∀ x ∈ above m l, 0 ≤ x ∧ x < 18446744073709551616 := by
  intro x hx
  obtain ⟨y, _, rfl⟩ := List.mem_map.1 hx
  rw [u64w]; omega
theorem above_snoc (m : Int) (l : List Int) (i : Nat) (h : i < l.length) : above m (l.take (i + 1)) = above m (l.take i) ++ [IntKind.u64.wrap (IntKind.u64.wrap l[i] - IntKind.u64.wrap m)] := by
  rw [List.take_succ_eq_append_getElem h]; simp only [above, List.map_append, List.map_cons, List.map_nil]
theorem above_length (m : Int) (l : List Int) : (above m l).length = l.length := by simp [above]
theorem min_l0 (l : List Int) (hn : l.length < 9223372036854775807) : ∀ (d k i : Nat) (m : Int), l.length = i + d → d < k → slices_Min_int64_int64.l0 k l m i = some ((l.drop i).foldl mn m) := by
  intro d
  induction d with
  | zero =>
    intro k i m hd hk
    obtain ⟨k, rfl⟩ : ∃ m, k = m + 1 := ⟨k - 1, by omega⟩
    simp only [slices_Min_int64_int64.l0]
    rw [if_neg (by omega), List.drop_of_length_le (by omega)]; rfl
  | succ d ih =>
    intro k i m hd hk
    obtain ⟨k, rfl⟩ : ∃ m, k = m + 1 := ⟨k - 1, by omega⟩
    simp only [slices_Min_int64_int64.l0]
    have := ih k (i + 1) (mn m l[i]) (by omega) (by omega)
    simp only [Int.natCast_add, Int.natCast_one] at this
    rw [if_pos (by omega), if_pos (by omega), rd_get (by omega), w64 (by omega) (by omega), this, dropc l i (by omega), List.foldl_cons]
theorem min_f (l : List Int) (h : l ≠ []) (hn : l.length < 9223372036854775807) {k : Nat} (hk : l.length < k) : slices_Min_int64_int64.f k l = some (minOf l) := by
  cases l with
  | nil => exact absurd rfl h
  | cons x l =>
    unfold slices_Min_int64_int64.f
    have hlen : (x :: l).length = l.length + 1 := rfl
    rw [if_neg (by omega), if_pos (by omega)]
    have := min_l0 (x :: l) hn l.length k 1 x (by omega) (by omega)
    exact this
def foreOf (l : List Int) : List Int :=
  if l = [] then [] else leb (zz (minOf l)).toNat ++ [(maxW (above (minOf l) l) : Int)] ++ (packed (above (minOf l) l) (maxW (above (minOf l) l))).1
theorem packed_max (d : List Int) (hn : d.length ≤ 65536) (hd : ∀ x ∈ d, 0 ≤ x ∧ x < 18446744073709551616) : (packed d (maxW d)).2 = 0 ∧ packed d (maxW d) = (digs (sizeN d.length (maxW d)) (numN (maxW d) d), 0) := by
  have h64 := maxW_64 d hd
  have oa : okSize (d.length : Int) ((maxW d : Nat) : Int) := ⟨by omega, by omega, by omega, by omega⟩
  have hf : fitAll d (maxW d) := (maxW_fit d _ h64 hd).1 (Nat.le_refl _)
  unfold packed
  rw [if_pos oa, Int.toNat_natCast, if_pos hf]; exact ⟨rfl, rfl⟩
theorem packed_max_len (d : List Int) (hn : d.length ≤ 65536) (hd : ∀ x ∈ d, 0 ≤ x ∧ x < 18446744073709551616) : (packed d (maxW d)).1.length ≤ 8 * d.length := by
  rw [(packed_max d hn hd).2]
  show (digs _ _).length ≤ _
  rw [digs_length]
  have h64 := maxW_64 d hd
  have : d.length * maxW d ≤ d.length * 64 := Nat.mul_le_mul_left _ h64
  unfold sizeN; omega
theorem width_ev' (L : List Int) (hn : L.length ≤ 65536) (hL : ∀ x ∈ L, 0 ≤ x ∧ x < 18446744073709551616) : Ev (fun k => bits_Width.f k L) (maxW L : Int) := ⟨L.length + 2, fun k hk => width_f L hn hL (by omega)⟩
theorem byte_w {w : Nat} (h : w ≤ 64) : (w : Int) % 256 = (w : Int) := by omega
theorem fore_end (l : List Int) (m : Int) (hm : -9223372036854775808 ≤ m ∧ m ≤ 9223372036854775807) (hn : l.length ≤ 65536) :
    Ev (fun k => (bits_Width.f k (above m l)).bind fun t126 => ((bits_Pack.f k (above m l) t126).bind fun bt127 => ((num_Zig.f m).bind fun t131 => ((num_PutVar.f k ([] : List Int) t131).bind fun t132 => (if t132.length < 140737488355328 then ((some (t132 ++ [(t126) % 256] : List Int)).bind fun y135 => (if y135.length + bt127.1.length < 140737488355328 then (some ((y135 ++ bt127.1), bt127.2)) else (none))) else (none))))))
      (leb (zz m).toNat ++ [(maxW (above m l) : Int)] ++ (packed (above m l) (maxW (above m l))).1, 0) := by
  have hd := above_u64 m l
  have hl : (above m l).length ≤ 65536 := by rw [above_length]; exact hn
  refine Ev.bind (width_ev' _ hl hd) ?_
  refine Ev.bind (pack_f _ _ hd) ?_
  rw [zig_f hm.1 hm.2]
  refine Ev.bind (Ev.now _) ?_
  have hz := zz_range hm.1 hm.2
  have hpv : Ev (fun k => num_PutVar.f k ([] : List Int) (zz m)) (leb (zz m).toNat) := ⟨10, fun k hk => by
    have := putvar_f (b := []) (k := k) hz.1 hz.2 hk (by decide)
    simpa using this⟩
  refine Ev.bind hpv ?_
  have h10 := leb_length10 (v := (zz m).toNat) (by omega)
  have hpl := packed_max_len _ hl hd
  have i1 : (leb (zz m).toNat).length < 140737488355328 := by omega
  simp only [if_pos i1]
  refine Ev.bind (Ev.now _) ?_
  have i2 : (leb (zz m).toNat ++ [((maxW (above m l) : Nat) : Int)]).length + (packed (above m l) (maxW (above m l))).1.length < 140737488355328 := by rw [List.length_append, List.length_singleton]; omega
  simp only [byte_w (maxW_64 _ hd), if_pos i2, (packed_max _ hl hd).1]
  exact Ev.now _
theorem fore_l0 (l : List Int) (m : Int) (hm : -9223372036854775808 ≤ m ∧ m ≤ 9223372036854775807) (hn : l.length ≤ 65536) :
    ∀ (d i : Nat), l.length = i + d → Ev (fun k => fore_Put.l0 k m (above m (l.take i)) l l.length i) (leb (zz m).toNat ++ [(maxW (above m l) : Int)] ++ (packed (above m l) (maxW (above m l))).1, 0) := by
  intro d
  induction d with
  | zero =>
    intro i hd
    refine Ev.step (fun k => ?_) (fore_end l m hm hn)
    simp only [fore_Put.l0]
    rw [if_neg (by omega), List.take_of_length_le (by omega)]
  | succ d ih =>
    intro i hd
    refine Ev.step (fun k => ?_) (ih (i + 1) (by omega))
    simp only [fore_Put.l0]
    have hl : (above m (l.take i)).length < 17592186044416 := by rw [above_length, List.length_take]; omega
    rw [if_pos (by omega), if_pos (by omega), if_pos (by omega), if_pos hl, rd_get (by omega), w64 (by omega) (by omega), above_snoc m l i (by omega)]
    rfl
theorem foreput_f (l : List Int) (hn : l.length ≤ 65536) (hw : ∀ x ∈ l, -9223372036854775808 ≤ x ∧ x ≤ 9223372036854775807) : Ev (fun k => fore_Put.f k l) (foreOf l, 0) := by
  unfold fore_Put.f foreOf
  have c : ¬ (l.length : Int) > 65536 := by omega
  simp only [if_neg c]
  by_cases h : l = []
  · have c2 : (l.length : Int) = 0 := by rw [h]; rfl
    simp only [if_pos c2, if_pos h]; exact Ev.now _
  · have hpos : 0 < l.length := List.length_pos_iff.2 h
    have c2 : ¬ (l.length : Int) = 0 := by omega
    simp only [if_neg c2, if_neg h]
    have hmin : Ev (fun k => slices_Min_int64_int64.f k l) (minOf l) := ⟨l.length + 1, fun k hk => min_f l h (by omega) (by omega)⟩
    refine Ev.bind hmin ?_
    have := fore_l0 l (minOf l) (hw _ (minOf_mem h)) hn l.length 0 (by omega)
    simpa [above] using this
theorem foreOf_length (l : List Int) (hn : l.length ≤ 65536) (hw : ∀ x ∈ l, -9223372036854775808 ≤ x ∧ x ≤ 9223372036854775807) : (foreOf l).length ≤ 8 * l.length + 11 := by
  unfold foreOf
  by_cases h : l = []
  · rw [if_pos h]; exact Nat.zero_le _
  · rw [if_neg h, List.length_append, List.length_append, List.length_singleton]
    have hm := hw _ (minOf_mem h)
    have hz := zz_range hm.1 hm.2
    have h10 := leb_length10 (v := (zz (minOf l)).toNat) (by omega)
    have := packed_max_len (above (minOf l) l) (by rw [above_length]; exact hn) (above_u64 _ _)
    rw [above_length] at this
    omega
def I64 (x : Int) : Prop := -9223372036854775808 ≤ x ∧ x ≤ 9223372036854775807
theorem wrap_i64 (x : Int) : I64 (wrap64 x) := by unfold I64 wrap64; omega
def steps : Int → List Int → List Int
  | _, [] => []
  | last, x :: l => wrap64 (x - last) :: steps x l
theorem steps_length : ∀ (l : List Int) (a : Int), (steps a l).length = l.length := by
  intro l; induction l with
  | nil => intro a; rfl
  | cons x l ih => intro a; simp [steps, ih]
theorem steps_i64 : ∀ (l : List Int) (a : Int), ∀ x ∈ steps a l, I64 x := by
  intro l; induction l with
  | nil => intro a x hx; simp [steps] at hx
  | cons y l ih =>
    intro a x hx
    simp only [steps, List.mem_cons] at hx
    rcases hx with rfl | hx
    · exact wrap_i64 _
    · exact ih _ x hx
theorem steps_l0 (l : List Int) (hn : l.length ≤ 65536) : ∀ (d k i : Nat) (out : List Int) (last : Int), l.length = i + d → d < k → out.length ≤ i → delta_Steps.l0 k out last l l.length i = some (out ++ steps last (l.drop i)) := by
  intro d
  induction d with
  | zero =>
    intro k i out last hd hk ho
    obtain ⟨k, rfl⟩ : ∃ m, k = m + 1 := ⟨k - 1, by omega⟩
    simp only [delta_Steps.l0]
    rw [if_neg (by omega), List.drop_of_length_le (by omega)]; simp [steps]
  | succ d ih =>
    intro k i out last hd hk ho
    obtain ⟨k, rfl⟩ : ∃ m, k = m + 1 := ⟨k - 1, by omega⟩
    simp only [delta_Steps.l0]
    have := ih k (i + 1) (out ++ [wrap64 (l[i] - last)]) l[i] (by omega) (by omega) (by simp; omega)
    simp only [Int.natCast_add, Int.natCast_one] at this
    rw [if_pos (by omega), if_pos (by omega), if_pos (by omega), if_pos (by omega), rd_get (by omega), w64 (n := (i : Int) + 1) (by omega) (by omega), this, dropc l i (by omega), steps, List.append_assoc, List.singleton_append]
theorem steps_f (l : List Int) (hn : l.length ≤ 65536) : Ev (fun k => delta_Steps.f k l) (steps 0 l) := ⟨l.length + 1, fun k hk => by
  show delta_Steps.f k l = _
  unfold delta_Steps.f
  have := steps_l0 l hn l.length k 0 [] 0 (by omega) (by omega) (by simp)
  simpa using this⟩
theorem zigs_l0 (l : List Int) (hn : l.length ≤ 65536) (hw : ∀ x ∈ l, I64 x) : ∀ (d k i : Nat) (out : List Int), l.length = i + d → d < k → out.length ≤ i → delta_zigs.l0 k out l l.length i = some (out ++ (l.drop i).map zz) := by
  intro d
  induction d with
  | zero =>
    intro k i out hd hk ho
    obtain ⟨k, rfl⟩ : ∃ m, k = m + 1 := ⟨k - 1, by omega⟩
    simp only [delta_zigs.l0]
    rw [if_neg (by omega), List.drop_of_length_le (by omega)]; simp
  | succ d ih =>
    intro k i out hd hk ho
    obtain ⟨k, rfl⟩ : ∃ m, k = m + 1 := ⟨k - 1, by omega⟩
    simp only [delta_zigs.l0]
    have hx := hw l[i] (List.getElem_mem (by omega))
    have := ih k (i + 1) (out ++ [zz l[i]]) (by omega) (by omega) (by simp; omega)
    simp only [Int.natCast_add, Int.natCast_one] at this
    rw [if_pos (by omega), if_pos (by omega), if_pos (by omega), rd_get (by omega), zig_f hx.1 hx.2, Option.bind_some, if_pos (by omega), w64 (n := (i : Int) + 1) (by omega) (by omega), this, dropc l i (by omega), List.map_cons, List.append_assoc, List.singleton_append]
theorem zigs_f (l : List Int) (hn : l.length ≤ 65536) (hw : ∀ x ∈ l, I64 x) : Ev (fun k => delta_zigs.f k l) (l.map zz) := ⟨l.length + 1, fun k hk => by
  show delta_zigs.f k l = _
  unfold delta_zigs.f
  have := zigs_l0 l hn hw l.length k 0 [] (by omega) (by omega) (by simp)
  simpa using this⟩
theorem zz_u64 (l : List Int) (hw : ∀ x ∈ l, I64 x) : ∀ x ∈ l.map zz, 0 ≤ x ∧ x < 18446744073709551616 := by
  intro x hx
  obtain ⟨y, hy, rfl⟩ := List.mem_map.1 hx
  exact zz_range (hw y hy).1 (hw y hy).2
/-- the form of turned steps -/
def deltaForm : List Int → List Int
  | [] => []
  | z :: [] => leb z.toNat
  | z :: y :: r => leb z.toNat ++ [(maxW (y :: r) : Int)] ++ (packed (y :: r) (maxW (y :: r))).1
def deltaOf (l : List Int) : List Int := deltaForm ((steps 0 l).map zz)
theorem packed_maxd (d : List Int) (hn : d.length ≤ 65536) (hd : ∀ x ∈ d, 0 ≤ x ∧ x < 18446744073709551616) : (packed d (maxW d)).2 = 0 ∧ (packed d (maxW d)).1.length ≤ 8 * d.length := by
  have h64 := maxW_64 d hd
  have oa : okSize (d.length : Int) ((maxW d : Nat) : Int) := ⟨by omega, by omega, by omega, by omega⟩
  have hf : fitAll d (maxW d) := (maxW_fit d _ h64 hd).1 (Nat.le_refl _)
  unfold packed
  rw [if_pos oa, Int.toNat_natCast, if_pos hf]
  refine ⟨rfl, ?_⟩
  show (digs _ _).length ≤ _
  rw [digs_length]
  have : d.length * maxW d ≤ d.length * 64 := Nat.mul_le_mul_left _ h64
  unfold sizeN; omega
theorem width_evd (L : List Int) (hn : L.length ≤ 65536) (hL : ∀ x ∈ L, 0 ≤ x ∧ x < 18446744073709551616) : Ev (fun k => bits_Width.f k L) (maxW L : Int) := ⟨L.length + 2, fun k hk => width_f L hn hL (by omega)⟩
theorem byte_wd {w : Nat} (h : w ≤ 64) : (w : Int) % 256 = (w : Int) := by omega
theorem putvar_nil {v : Int} (h0 : 0 ≤ v) (h1 : v < 18446744073709551616) : Ev (fun k => num_PutVar.f k ([] : List Int) v) (leb v.toNat) := ⟨10, fun k hk => by
  have := putvar_f (b := []) (k := k) h0 h1 hk (by decide)
  simpa using this⟩
theorem deltaForm_length : ∀ (z : List Int), z.length ≤ 65536 → (∀ x ∈ z, 0 ≤ x ∧ x < 18446744073709551616) → (deltaForm z).length ≤ 8 * z.length + 11 := by
  intro z hn hz
  match z with
  | [] => exact Nat.zero_le _
  | [a] =>
    have ha := hz a (by simp)
    have := leb_length10 (v := a.toNat) (by omega)
    simp only [deltaForm]; omega
  | a :: y :: r =>
    have ha := hz a (by simp)
    have h10 := leb_length10 (v := a.toNat) (by omega)
    have := (packed_maxd (y :: r) (by simp at hn ⊢; omega) (fun x hx => hz x (by simp at hx ⊢; exact .inr hx))).2
    simp only [deltaForm, List.length_append, List.length_cons, List.length_nil] at this ⊢; omega
theorem deltaput_f (l : List Int) (hn : l.length ≤ 65536) : Ev (fun k => delta_Put.f k l) (deltaOf l, 0) := by
  unfold delta_Put.f deltaOf
  have c : ¬ (l.length : Int) > 65536 := by omega
  simp only [if_neg c]
  refine Ev.bind (steps_f l hn) ?_
  have hsl := steps_length l 0
  have hsi := steps_i64 l 0
  refine Ev.bind (zigs_f _ (by omega) hsi) ?_
  have hz := zz_u64 _ hsi
  have hzl : ((steps 0 l).map zz).length = l.length := by rw [List.length_map, hsl]
  obtain ⟨z, hzz⟩ : ∃ z, z = (steps 0 l).map zz := ⟨_, rfl⟩
  rw [← hzz] at hz hzl ⊢
  clear hzz
  match z, hz, hzl with
  | [], hz, hzl =>
    simp only [List.length_nil]
    have c1 : ¬ ((0 : Nat) : Int) = 1 := by decide
    have c2 : ((0 : Nat) : Int) = 0 := rfl
    simp only [if_neg c1, if_pos c2]; exact Ev.now _
  | [a], hz, hzl =>
    have c1 : (([a] : List Int).length : Int) = 1 := rfl
    have c2 : 0 < (([a] : List Int).length : Int) := by simp
    simp only [if_pos c1, if_pos c2]
    have ha := hz a (by simp)
    exact Ev.bind (putvar_nil ha.1 ha.2) (Ev.now _)
  | a :: y :: r, hz, hzl =>
    have c1 : ¬ ((a :: y :: r : List Int).length : Int) = 1 := by simp only [List.length_cons]; omega
    have c2 : ¬ ((a :: y :: r : List Int).length : Int) = 0 := by simp only [List.length_cons]; omega
    have c3 : 1 ≤ ((a :: y :: r : List Int).length : Int) := by simp only [List.length_cons]; omega
    have c4 : 0 < ((a :: y :: r : List Int).length : Int) := by simp only [List.length_cons]; omega
    simp only [if_neg c1, if_neg c2, if_pos c3, if_pos c4]
    have ha := hz a (by simp)
    have hr : ∀ x ∈ y :: r, 0 ≤ x ∧ x < 18446744073709551616 := fun x hx => hz x (List.mem_cons_of_mem _ hx)
    have hrl : (y :: r).length ≤ 65536 := by simp only [List.length_cons] at hzl ⊢; omega
    obtain ⟨q1, q2⟩ := packed_maxd _ hrl hr
    refine Ev.bind (Ev.now _) ?_
    refine Ev.bind (width_evd (y :: r) hrl hr) ?_
    refine Ev.bind (pack_f (y :: r) _ hr) ?_
    refine Ev.bind (Ev.now _) ?_
    have i1 : ([((maxW (y :: r) : Nat) : Int)] : List Int).length + (packed (y :: r) ((maxW (y :: r) : Nat) : Int)).1.length < 140737488355328 := by simp only [List.length_singleton]; omega
    simp only [byte_wd (maxW_64 _ hr), if_pos i1]
    refine Ev.bind (Ev.now _) ?_
    refine Ev.bind (putvar_nil ha.1 ha.2) ?_
    have h10 := leb_length10 (v := a.toNat) (by omega)
    have i2 : (leb a.toNat).length + ([((maxW (y :: r) : Nat) : Int)] ++ (packed (y :: r) ((maxW (y :: r) : Nat) : Int)).1).length < 140737488355328 := by rw [List.length_append, List.length_singleton]; omega
    have e : rd (a :: y :: r) 0 = a := rfl
    rw [e]
    simp only [if_pos i2, q1, deltaForm, List.append_assoc]
    exact Ev.now _
def dl (l : List Int) : List Int := Go.Lib.compact (l.mergeSort fun x y => decide (x ≤ y))
theorem arr_get (zs : List Int) (j : Nat) (h : j < zs.length) : zs.toArray[j]! = zs[j] := by simp [getElem!_pos, h]
theorem first_kept (zs : List Int) (x : Int) : ∀ j, j < zs.length → zs.toArray[j]! = x → ∃ i, i < zs.length ∧ zs.toArray[i]! = x ∧ Go.Lib.keeps zs.toArray i = true := by
  intro j
  induction j with
  | zero => intro h e; exact ⟨0, h, e, Go.Lib.keeps_lt_one _ 0 (by decide)⟩
  | succ j ih =>
    intro h e
    by_cases hp : zs.toArray[j]! = x
    · exact ih (by omega) hp
    · refine ⟨j + 1, h, e, Go.Lib.keeps_pos ?_⟩
      rw [e, Nat.add_sub_cancel]; exact fun h => hp h.symm
theorem compact_mem (zs : List Int) (x : Int) : x ∈ Go.Lib.compact zs ↔ x ∈ zs := by
  unfold Go.Lib.compact Go.Lib.compactUpTo
  simp only [List.mem_map, List.mem_filter, List.mem_range]
  constructor
  · rintro ⟨j, ⟨hj, _⟩, rfl⟩
    rw [arr_get zs j hj]; exact List.getElem_mem hj
  · intro hx
    obtain ⟨j, hj, hx⟩ := List.getElem_of_mem hx
    obtain ⟨i, h1, h2, h3⟩ := first_kept zs x j hj (by rw [arr_get zs j hj]; exact hx)
    exact ⟨i, ⟨h1, h3⟩, h2⟩
theorem compact_lt (zs : List Int) (hs : zs.Pairwise (fun x y => x ≤ y)) : (Go.Lib.compact zs).Pairwise (fun x y => x < y) := by
  unfold Go.Lib.compact Go.Lib.compactUpTo
  rw [List.pairwise_map]
  have hr : (List.range zs.length).Pairwise (fun x y => x < y) := List.pairwise_lt_range
  refine (hr.filter _).imp_of_mem ?_
  intro a b ha hb hab
  simp only [List.mem_filter, List.mem_range] at ha hb
  have hle := List.pairwise_iff_getElem.1 hs
  have hk : ¬ zs.toArray[b]! = zs.toArray[b - 1]! := by
    intro e
    have := Go.Lib.keeps_neg (by omega) e
    rw [hb.2] at this; cases this
  rw [arr_get zs b hb.1, arr_get zs (b - 1) (by omega)] at hk
  rw [arr_get zs b hb.1, arr_get zs a ha.1]
  have h1 := hle (b - 1) b (by omega) hb.1 (by omega)
  by_cases e : a = b - 1
  · subst e; omega
  · have h2 := hle a (b - 1) ha.1 (by omega) (by omega)
    omega
theorem sorted_le (l : List Int) : (l.mergeSort fun x y => decide (x ≤ y)).Pairwise (fun x y => x ≤ y) := by
  have := List.pairwise_mergeSort (le := fun (x y : Int) => decide (x ≤ y)) (fun a b c h1 h2 => by simp only [decide_eq_true_eq] at *; omega) (fun a b => by simp only [Bool.or_eq_true, decide_eq_true_eq]; omega) l
  exact this.imp (fun h => by simpa using h)
theorem dl_lt (l : List Int) : (dl l).Pairwise (fun x y => x < y) := compact_lt _ (sorted_le l)
theorem dl_mem (l : List Int) (x : Int) : x ∈ dl l ↔ x ∈ l := by
  unfold dl
  rw [compact_mem]
  exact (List.mergeSort_perm l _).mem_iff
theorem dl_len (l : List Int) : (dl l).length ≤ l.length := by
  have h1 := Go.Lib.compact_length_le (l.mergeSort fun x y => decide (x ≤ y))
  rw [List.length_mergeSort] at h1
  exact h1
theorem dl_f {l : List Int} (h : l.length ≤ 1000000) : dict_List.f l = some (dl l) := by unfold dict_List.f; rw [if_pos (by omega)]; rfl
theorem wf_mk {x : Int} (h : I64 x) : (Lit.int .i64 x).wf = true := by
  unfold I64 at h
  simp [Lit.wf, IntKind.min, IntKind.max, IntKind.signed, IntKind.bits]; omega
theorem wfu_mk {x : Int} (h0 : 0 ≤ x) (h : x < 18446744073709551616) : (Lit.int .u64 x).wf = true := by
  simp [Lit.wf, IntKind.min, IntKind.max, IntKind.signed, IntKind.bits]; omega
def gaps : Int → List Int → List Int
  | _, [] => []
  | p, y :: r => (y - p - 1) :: gaps y r
def lebs : List Int → List Int
  | [] => []
  | v :: r => leb v.toNat ++ lebs r
def formOf : List Int → List Int
  | [] => []
  | x :: r => leb (zz x).toNat ++ lebs (gaps x r)
def places (L l : List Int) : List Int := l.map (fun x => ((L.idxOf x : Nat) : Int))
def wd (n : Nat) : Nat := Lib.bitLen (n - 1)
def dictOf (l : List Int) : List Int := leb (dl l).length ++ formOf (dl l) ++ [(wd (dl l).length : Int)] ++ (packed (places (dl l) l) (wd (dl l).length)).1
/-- the map's pairs when n numbers have been put -/
def pr (L : List Int) : Nat → List (Int × Int)
  | 0 => []
  | n + 1 => (L.getD n 0, (n : Int)) :: pr L n
theorem pr_length (L : List Int) : ∀ n, (pr L n).length = n
  | 0 => rfl
  | n + 1 => by rw [pr, List.length_cons, pr_length L n]
theorem lt_at {L : List Int} (hL : L.Pairwise (fun x y => x < y)) {i j : Nat} (hj : j < L.length) (h : i < j) : L[i]'(by omega) < L[j] := List.pairwise_iff_getElem.1 hL i j (by omega) hj h
theorem mpGet_pr {L : List Int} (hL : L.Pairwise (fun x y => x < y)) : ∀ n, n ≤ L.length → ∀ j (_ : j < n) (hl : j < L.length), mpGet (pr L n) L[j] = (j : Int) := by
  intro n
  induction n with
  | zero => intro _ j hj; omega
  | succ n ih =>
    intro hn j hj hl
    have hg : L.getD n 0 = L[n]'(by omega) := by simp [show n < L.length by omega]
    rw [pr, mpGet, hg]
    by_cases e : j = n
    · subst e; rw [if_pos rfl]
    · have := lt_at hL (i := j) (j := n) (by omega) (by omega)
      rw [if_neg (by simp only; omega)]
      exact ih (by omega) j (by omega) hl
theorem idx_lt {L : List Int} {x : Int} (h : x ∈ L) : L.idxOf x < L.length := List.idxOf_lt_length_of_mem h
theorem idx_at {L : List Int} {x : Int} (h : x ∈ L) : L[L.idxOf x]'(idx_lt h) = x := List.getElem_idxOf (idx_lt h)
theorem mpGet_idx {L : List Int} (hL : L.Pairwise (fun x y => x < y)) {x : Int} (h : x ∈ L) : mpGet (pr L L.length) x = ((L.idxOf x : Nat) : Int) := by
  have := mpGet_pr hL L.length (Nat.le_refl _) (L.idxOf x) (idx_lt h) (idx_lt h)
  rwa [idx_at h] at this
theorem gap_w {x y : Int} (hx : I64 x) (hy : I64 y) (h : x < y) : IntKind.u64.wrap ((IntKind.u64.wrap (wrap64 (y - x))) - 1) = y - x - 1 := by
  unfold I64 at hx hy
  rw [u64w, u64w]; unfold wrap64; omega
theorem gap_r {x y : Int} (hx : I64 x) (hy : I64 y) (h : x < y) : 0 ≤ y - x - 1 ∧ y - x - 1 < 18446744073709551616 := by
  unfold I64 at hx hy; omega
theorem putvar_ev {v : Int} {b : List Int} (h0 : 0 ≤ v) (h1 : v < 18446744073709551616) (hb : b.length < 140737488000000) : Ev (fun k => num_PutVar.f k b v) (b ++ leb v.toNat) := ⟨10, fun k hk => putvar_f h0 h1 hk hb⟩
theorem mp_put_pr (L : List Int) (i : Nat) (hi : i < L.length) (hn : L.length ≤ 65536) (hL : ∀ x ∈ L, I64 x) : mp_put.f (pr L i) L[i] (IntKind.u64.wrap (i : Int)) = some (pr L (i + 1)) := by
  have hx := hL _ (List.getElem_mem hi)
  unfold mp_put.f
  rw [u64w_id (by omega) (by omega), if_pos ⟨wf_mk hx, wfu_mk (by omega) (by omega), by rw [pr_length]; omega⟩, pr]
  simp [hi]
theorem dput_l0 (l L : List Int) (hL : L.Pairwise (fun x y => x < y)) (hn : L.length ≤ 65536) (hLi : ∀ x ∈ L, I64 x) (res : List Int × Int) :
    ∀ (d j : Nat) (hj : j < L.length) (b : List Int), L.length = (j + 1) + d → b.length ≤ 30 + 10 * j → Ev (fun k => dict_Put.l1 k L (b ++ lebs (gaps L[j] (L.drop (j + 1)))) [] l l.length 0 (pr L L.length)) res →
      Ev (fun k => dict_Put.l0 k l L b L L.length ((j + 1 : Nat) : Int) (pr L (j + 1))) res := by
  intro d
  induction d with
  | zero =>
    intro j hj b hd hb h
    rw [List.drop_of_length_le (by omega), gaps, lebs, List.append_nil] at h
    rw [show L.length = j + 1 by omega] at h ⊢
    refine Ev.step (fun k => ?_) h
    simp only [dict_Put.l0]
    rw [if_neg (Int.lt_irrefl _)]
  | succ d ih =>
    intro j hj b hd hb h
    have hi : j + 1 < L.length := by omega
    have hlt := lt_at hL (i := j) (j := j + 1) hi (by omega)
    have hx := hLi _ (List.getElem_mem hj)
    have hy := hLi _ (List.getElem_mem hi)
    have hr := gap_r hx hy hlt
    have h10 := leb_length10 (v := (L[j + 1] - L[j] - 1).toNat) (by omega)
    have hnext := ih (j + 1) hi (b ++ leb (L[j + 1] - L[j] - 1).toNat) (by omega) (by rw [List.length_append]; omega) (by
      rw [dropc L (j + 1) hi, gaps, lebs, ← List.append_assoc] at h
      exact h)
    have hpv := putvar_ev (b := b) hr.1 hr.2 (by omega)
    have e1 : wrap64 (((j + 1 : Nat) : Int) - 1) = (j : Int) := by rw [w64 (by omega) (by omega)]; omega
    have e2 : wrap64 (((j + 1 : Nat) : Int) + 1) = ((j + 1 + 1 : Nat) : Int) := by rw [w64 (by omega) (by omega)]; omega
    refine Ev.step (f := fun k => _) (fun k => by
      simp only [dict_Put.l0]
      rw [if_pos (Int.ofNat_lt.2 hi), if_pos (Int.natCast_nonneg _), if_pos (Int.ofNat_lt.2 hi), rd_get hi, mp_put_pr L (j + 1) hi hn hLi, Option.bind_some, if_neg (by omega), e1, if_pos (Int.natCast_nonneg _), if_pos (Int.ofNat_lt.2 hj), rd_get hj, gap_w hx hy hlt, e2]) ?_
    exact Ev.bind hpv hnext
theorem dict_width_f (n : Nat) (hn : n ≤ 65536) : dict_width.f (n : Int) = some (wd n : Int) := by
  have e : IntKind.u64.wrap (mx (wrap64 ((n : Int) - 1)) 0) = ((n - 1 : Nat) : Int) := by
    rw [w64 (by omega) (by omega)]
    unfold mx
    split <;> (rw [u64w_id (by omega) (by omega)]; omega)
  unfold dict_width.f bits_Len.f wd
  rw [e, if_pos (Int.natCast_nonneg _), if_pos (by omega), Option.bind_some, Int.toNat_natCast]
theorem wd_64 (n : Nat) (hn : n ≤ 65536) : wd n ≤ 64 := bitlen_le (by omega)
theorem places_len (L l : List Int) : (places L l).length = l.length := by simp [places]
theorem places_fit {L l : List Int} (hm : ∀ x ∈ l, x ∈ L) (hn : L.length ≤ 65536) : (∀ x ∈ places L l, 0 ≤ x ∧ x < 18446744073709551616) ∧ fitAll (places L l) (wd L.length) := by
  constructor
  · intro x hx
    obtain ⟨y, hy, rfl⟩ := List.mem_map.1 hx
    have := idx_lt (hm y hy)
    omega
  · intro x hx
    obtain ⟨y, hy, rfl⟩ := List.mem_map.1 hx
    have h1 := idx_lt (hm y hy)
    have h2 := bitlen_lt (Nat.le_refl (Lib.bitLen (L.length - 1))) (by omega)
    rw [Int.toNat_natCast]
    exact Nat.lt_of_le_of_lt (by omega) h2
theorem places_ok {L l : List Int} (hm : ∀ x ∈ l, x ∈ L) (hn : L.length ≤ 65536) (hl : l.length ≤ 65536) : (packed (places L l) (wd L.length)).2 = 0 ∧ (packed (places L l) (wd L.length)).1.length ≤ 8 * l.length + 1 := by
  have oa : okSize ((places L l).length : Int) ((wd L.length : Nat) : Int) := ⟨by omega, by rw [places_len]; omega, by omega, by have := wd_64 L.length hn; omega⟩
  unfold packed
  rw [if_pos oa, Int.toNat_natCast, if_pos (places_fit hm hn).2]
  refine ⟨rfl, ?_⟩
  show (digs _ _).length ≤ _
  rw [digs_length, places_len]
  have : l.length * wd L.length ≤ l.length * 64 := Nat.mul_le_mul_left _ (wd_64 _ hn)
  unfold sizeN; omega
theorem dput_l1 (l L b : List Int) (hL : L.Pairwise (fun x y => x < y)) (hm : ∀ x ∈ l, x ∈ L) (hn : L.length ≤ 65536) (hl : l.length ≤ 65536) (hli : ∀ x ∈ l, I64 x) (hb : b.length ≤ 1000000) :
    ∀ (d i : Nat), l.length = i + d → Ev (fun k => dict_Put.l1 k L b ((places L l).take i) l l.length i (pr L L.length)) (b ++ [(wd L.length : Int)] ++ (packed (places L l) (wd L.length)).1, 0) := by
  intro d
  induction d with
  | zero =>
    intro i hd
    obtain ⟨p1, p2⟩ := places_ok hm hn hl
    have hw := wd_64 L.length hn
    rw [List.take_of_length_le (by rw [places_len]; omega)]
    refine Ev.step (f := fun k => _) (fun k => by
      simp only [dict_Put.l1]
      rw [if_neg (by omega), dict_width_f _ hn, Option.bind_some]) ?_
    refine Ev.bind (pack_f (places L l) _ (places_fit hm hn).1) ?_
    have i1 : b.length < 140737488355328 := by omega
    have i2 : (b ++ [(wd L.length : Int)]).length + (packed (places L l) ((wd L.length : Nat) : Int)).1.length < 140737488355328 := by rw [List.length_append, List.length_singleton]; omega
    have i3 : ((wd L.length : Nat) : Int) % 256 = (wd L.length : Int) := by omega
    simp only [i3, if_pos i1, Option.bind_some, if_pos i2, p1]
    exact Ev.now _
  | succ d ih =>
    intro i hd
    have hi : i < l.length := by omega
    have hx := hli _ (List.getElem_mem hi)
    refine Ev.step (fun k => ?_) (ih (i + 1) (by omega))
    have hg : mp_get.f (pr L L.length) l[i] = some (((L.idxOf l[i] : Nat) : Int), pr L L.length) := by
      unfold mp_get.f
      rw [if_pos (wf_mk hx), mpGet_idx hL (hm _ (List.getElem_mem hi))]
    simp only [dict_Put.l1]
    rw [if_pos (Int.ofNat_lt.2 hi), if_pos (Int.natCast_nonneg _), if_pos (Int.ofNat_lt.2 hi), rd_get hi, hg, Option.bind_some, if_pos (by rw [List.length_take]; omega), w64 (n := (i : Int) + 1) (by omega) (by omega)]
    have e : (places L l).take (i + 1) = (places L l).take i ++ [((L.idxOf l[i] : Nat) : Int)] := by
      rw [List.take_succ_eq_append_getElem (by rw [places_len]; exact hi)]
      congr 2
      simp [places]
    rw [e]
    rfl
theorem lebs_gaps_len : ∀ (r : List Int) (p : Int), I64 p → (∀ x ∈ r, I64 x) → (p :: r).Pairwise (fun x y => x < y) → (lebs (gaps p r)).length ≤ 10 * r.length := by
  intro r
  induction r with
  | nil => intro p _ _ _; simp [gaps, lebs]
  | cons y r ih =>
    intro p hp hr hs
    obtain ⟨s1, s2⟩ := List.pairwise_cons.1 hs
    have hy := hr y (by simp)
    have hg := gap_r hp hy (s1 y (by simp))
    have h10 := leb_length10 (v := (y - p - 1).toNat) (by omega)
    have := ih y hy (fun x hx => hr x (by simp [hx])) s2
    rw [gaps, lebs, List.length_append, List.length_cons]
    omega
theorem formOf_len (L : List Int) (hL : L.Pairwise (fun x y => x < y)) (hLi : ∀ x ∈ L, I64 x) : (formOf L).length ≤ 10 * L.length := by
  cases L with
  | nil => exact Nat.zero_le _
  | cons x r =>
    have hx := hLi x (by simp)
    have hz := zz_range hx.1 hx.2
    have h10 := leb_length10 (v := (zz x).toNat) (by omega)
    have := lebs_gaps_len r x hx (fun y hy => hLi y (by simp [hy])) hL
    rw [formOf, List.length_append, List.length_cons]
    omega
theorem dictput_f (l : List Int) (hl : l.length ≤ 65536) (hli : ∀ x ∈ l, I64 x) : Ev (fun k => dict_Put.f k l) (dictOf l, 0) := by
  unfold dict_Put.f dictOf
  have c : ¬ (l.length : Int) > 65536 := by omega
  simp only [if_neg c]
  rw [dl_f (by omega)]
  have hL := dl_lt l
  have hn : (dl l).length ≤ 65536 := Nat.le_trans (dl_len l) hl
  have hLi : ∀ x ∈ dl l, I64 x := fun x hx => hli x ((dl_mem l x).1 hx)
  have hm : ∀ x ∈ l, x ∈ dl l := fun x hx => (dl_mem l x).2 hx
  generalize dl l = L at *
  have hf := formOf_len L hL hLi
  refine Ev.bind (Ev.now _) ?_
  refine Ev.bind (a := ([] : List (Int × Int))) (Ev.now _) ?_
  have e0 : IntKind.u64.wrap (L.length : Int) = (L.length : Int) := u64w_id (by omega) (by omega)
  rw [e0]
  have hp0 := putvar_ev (b := []) (v := (L.length : Int)) (by omega) (by omega) (by decide)
  rw [Int.toNat_natCast, List.nil_append] at hp0
  refine Ev.bind hp0 ?_
  have h10 := leb_length10 (v := L.length) (by omega)
  have hend := dput_l1 l L (leb L.length ++ formOf L) hL hm hn hl hli (by rw [List.length_append]; omega) l.length 0 (by omega)
  rw [List.take_zero] at hend
  cases L with
  | nil =>
    rw [formOf, List.append_nil] at hend ⊢
    refine Ev.step (fun k => ?_) hend
    simp only [dict_Put.l0]
    rw [if_neg (by simp)]
    rfl
  | cons x r =>
    have hx := hLi x (by simp)
    have hz := zz_range hx.1 hx.2
    have h10z := leb_length10 (v := (zz x).toNat) (by omega)
    have hpv := putvar_ev (b := leb (x :: r).length) hz.1 hz.2 (by omega)
    have h0 : (0 : Nat) < (x :: r).length := by simp
    have hput := mp_put_pr (x :: r) 0 h0 hn hLi
    refine Ev.step (f := fun k => (num_PutVar.f k (leb (x :: r).length) (zz x)).bind fun t => dict_Put.l0 k l (x :: r) t (x :: r) (x :: r).length ((0 + 1 : Nat) : Int) (pr (x :: r) (0 + 1))) (fun k => by
      simp only [dict_Put.l0]
      have hrd : rd (x :: r) 0 = x := rfl
      have e : mp_put.f ([] : List (Int × Int)) x (IntKind.u64.wrap 0) = some (pr (x :: r) (0 + 1)) := hput
      rw [if_pos (by simp only [List.length_cons]; omega), if_pos (Int.le_refl 0), if_pos (by simp only [List.length_cons]; omega), hrd, e, Option.bind_some, if_pos trivial, zig_f hx.1 hx.2, Option.bind_some, w64 (n := (0 : Int) + 1) (by omega) (by omega)]
      rfl) ?_
    refine Ev.bind hpv ?_
    refine dput_l0 l (x :: r) hL hn hLi _ r.length 0 h0 _ (by simp only [List.length_cons]; omega) (by rw [List.length_append]; omega) ?_
    have e : leb (x :: r).length ++ formOf (x :: r) = leb (x :: r).length ++ leb (zz x).toNat ++ lebs (gaps x r) := by rw [formOf, List.append_assoc]
    show Ev (fun k => dict_Put.l1 k (x :: r) (leb (x :: r).length ++ leb (zz x).toNat ++ lebs (gaps x r)) [] l l.length 0 (pr (x :: r) (x :: r).length)) _
    rw [← e]
    exact hend
def tb (s : ByteArray) : List UInt8 := s.data.toList
theorem tb_inj {a b : ByteArray} (h : tb a = tb b) : a = b := by
  cases a; cases b
  unfold tb at h
  simp only [ByteArray.mk.injEq]
  exact Array.toList_inj.1 h
theorem tb_toList (s : ByteArray) : s.toList = tb s := ByteArray.toList_eq s
def LT (a b : ByteArray) : Prop := tb a < tb b
theorem less_eq (a b : ByteArray) : Op.bytesLess a.toList b.toList = decide (tb a < tb b) := by rw [tb_toList, tb_toList, bytesLess_eq]
theorem bl_irrefl (a : List UInt8) : ¬ a < a := List.lt_irrefl a
theorem bl_trans {a b c : List UInt8} (h1 : a < b) (h2 : b < c) : a < c := List.lt_trans h1 h2
theorem bl_tri (a b : List UInt8) : a < b ∨ a = b ∨ b < a := by
  by_cases h : a < b
  · exact .inl h
  · by_cases h2 : b < a
    · exact .inr (.inr h2)
    · exact .inr (.inl (List.le_antisymm (List.not_lt.1 h2) (List.not_lt.1 h)))
theorem bl_le {a b : List UInt8} : a ≤ b ↔ ¬ b < a := Iff.rfl
theorem tarr_get (zs : List (List UInt8)) (j : Nat) (h : j < zs.length) : zs.toArray[j]! = zs[j] := by simp [getElem!_pos, h]
theorem tfirst_kept (zs : List (List UInt8)) (x : List UInt8) : ∀ j, j < zs.length → zs.toArray[j]! = x → ∃ i, i < zs.length ∧ zs.toArray[i]! = x ∧ Go.Lib.keeps zs.toArray i = true := by
  intro j
  induction j with
  | zero => intro h e; exact ⟨0, h, e, Go.Lib.keeps_lt_one _ 0 (by decide)⟩
  | succ j ih =>
    intro h e
    by_cases hp : zs.toArray[j]! = x
    · exact ih (by omega) hp
    · refine ⟨j + 1, h, e, Go.Lib.keeps_pos ?_⟩
      rw [e, Nat.add_sub_cancel]; exact fun h => hp h.symm
theorem tcompact_mem (zs : List (List UInt8)) (x : List UInt8) : x ∈ Go.Lib.compact zs ↔ x ∈ zs := by
  unfold Go.Lib.compact Go.Lib.compactUpTo
  simp only [List.mem_map, List.mem_filter, List.mem_range]
  constructor
  · rintro ⟨j, ⟨hj, _⟩, rfl⟩
    rw [tarr_get zs j hj]; exact List.getElem_mem hj
  · intro hx
    obtain ⟨j, hj, hx⟩ := List.getElem_of_mem hx
    obtain ⟨i, h1, h2, h3⟩ := tfirst_kept zs x j hj (by rw [tarr_get zs j hj]; exact hx)
    exact ⟨i, ⟨h1, h3⟩, h2⟩
theorem tcompact_lt (zs : List (List UInt8)) (hs : zs.Pairwise (fun x y => x ≤ y)) : (Go.Lib.compact zs).Pairwise (fun x y => x < y) := by
  unfold Go.Lib.compact Go.Lib.compactUpTo
  rw [List.pairwise_map]
  have hr : (List.range zs.length).Pairwise (fun x y => x < y) := List.pairwise_lt_range
  refine (hr.filter _).imp_of_mem ?_
  intro a b ha hb hab
  simp only [List.mem_filter, List.mem_range] at ha hb
  have hle := List.pairwise_iff_getElem.1 hs
  have hk : ¬ zs.toArray[b]! = zs.toArray[b - 1]! := by
    intro e
    have := Go.Lib.keeps_neg (by omega) e
    rw [hb.2] at this; cases this
  rw [tarr_get zs b hb.1, tarr_get zs (b - 1) (by omega)] at hk
  rw [tarr_get zs b hb.1, tarr_get zs a ha.1]
  have h1 := hle (b - 1) b (by omega) hb.1 (by omega)
  have h3 : zs[b - 1]'(by omega) < zs[b] := by
    rcases bl_tri (zs[b - 1]'(by omega)) zs[b] with h | h | h
    · exact h
    · exact absurd h.symm hk
    · exact absurd h (bl_le.1 h1)
  by_cases e : a = b - 1
  · subst e; exact h3
  · have h2 := hle a (b - 1) ha.1 (by omega) (by omega)
    rcases bl_tri zs[a] (zs[b - 1]'(by omega)) with h | h | h
    · exact bl_trans h h3
    · rw [h]; exact h3
    · exact absurd h (bl_le.1 h2)
theorem tsorted_le (l : List (List UInt8)) : (l.mergeSort fun x y => decide (x ≤ y)).Pairwise (fun x y => x ≤ y) := by
  have := List.pairwise_mergeSort (le := fun (x y : List UInt8) => decide (x ≤ y)) (fun a b c h1 h2 => by
    simp only [decide_eq_true_eq] at *
    intro h
    rcases bl_tri a b with h3 | h3 | h3
    · exact h2 (bl_trans h h3)
    · subst h3; exact h2 h
    · exact h1 h3) (fun a b => by
    simp only [Bool.or_eq_true, decide_eq_true_eq]
    rcases bl_tri a b with h | h | h
    · exact .inl (fun h2 => bl_irrefl _ (bl_trans h h2))
    · exact .inl (by subst h; exact bl_irrefl a)
    · exact .inr (fun h2 => bl_irrefl _ (bl_trans h h2))) l
  exact this.imp (fun h => by simpa using h)
def tl (l : List ByteArray) : List ByteArray := texts_List.bs (Go.Lib.compact (texts_List.srt l))
def Asc (l : List ByteArray) : Prop := l.Pairwise LT
theorem tl_asc (l : List ByteArray) : Asc (tl l) := by
  unfold Asc tl texts_List.bs
  rw [List.pairwise_map]
  exact (tcompact_lt _ (tsorted_le (texts_List.ls l))).imp (fun h => h)
theorem tl_mem (l : List ByteArray) (x : ByteArray) : x ∈ tl l ↔ x ∈ l := by
  unfold tl texts_List.bs
  rw [List.mem_map]
  have hm : ∀ y, y ∈ Go.Lib.compact (texts_List.srt l) ↔ y ∈ texts_List.ls l := fun y => by
    rw [tcompact_mem]; exact (List.mergeSort_perm _ _).mem_iff
  constructor
  · rintro ⟨y, hy, rfl⟩
    obtain ⟨z, hz, rfl⟩ := List.mem_map.1 ((hm y).1 hy)
    have : z = (⟨z.data.toList.toArray⟩ : ByteArray) := tb_inj rfl
    rwa [← this]
  · intro hx
    exact ⟨tb x, (hm _).2 (List.mem_map.2 ⟨x, hx, rfl⟩), tb_inj rfl⟩
theorem tl_len (l : List ByteArray) : (tl l).length ≤ l.length := by
  have h1 := Go.Lib.compact_length_le (texts_List.srt l)
  have h2 : (texts_List.srt l).length = l.length := by unfold texts_List.srt texts_List.ls; rw [List.length_mergeSort, List.length_map]
  unfold tl texts_List.bs
  rw [List.length_map]; omega
theorem tl_f {l : List ByteArray} (h : l.length ≤ 1000000) : texts_List.f l = some (tl l) := by unfold texts_List.f; rw [if_pos (by omega)]; rfl
theorem rdo_get {xs : List ByteArray} {i : Nat} (h : i < xs.length) : rdOf ByteArray.empty xs (i : Int) = xs[i] := by simp [rdOf, h]
theorem nx {i : Nat} (h : i < 9223372036854775807) : wrap64 ((i : Int) + 1) = ((i + 1 : Nat) : Int) := by rw [w64 (by omega) (by omega)]; omega
def pl (s : ByteArray) : List ByteArray → Nat × Bool
  | [] => (0, false)
  | y :: ys => if tb y < tb s then ((pl s ys).1 + 1, (pl s ys).2) else (0, tb y == tb s)
theorem pl_at (s : ByteArray) : ∀ X, Asc X → s ∈ X → X[(pl s X).1]? = some s := by
  intro X
  induction X with
  | nil => intro _ h; exact absurd h (by simp)
  | cons y ys ih =>
    intro hA h
    obtain ⟨a1, a2⟩ := List.pairwise_cons.1 hA
    rw [pl]
    by_cases e : y = s
    · subst e
      rw [if_neg (bl_irrefl _)]; rfl
    · have hm : s ∈ ys := by
        rcases List.mem_cons.1 h with h | h
        · exact absurd h.symm e
        · exact h
      have hlt : tb y < tb s := a1 s hm
      rw [if_pos hlt]
      show (y :: ys)[(pl s ys).1 + 1]? = some s
      rw [List.getElem?_cons_succ]
      exact ih a2 hm
theorem pl_get {s : ByteArray} {X : List ByteArray} (hA : Asc X) (h : s ∈ X) : ∃ hl : (pl s X).1 < X.length, X[(pl s X).1] = s := List.getElem?_eq_some_iff.1 (pl_at s X hA h)
theorem pl_iff (s : ByteArray) : ∀ X, Asc X → ∀ j (h : j < X.length), tb X[j] < tb s ↔ j < (pl s X).1 := by
  intro X
  induction X with
  | nil => intro _ j h; exact absurd h (Nat.not_lt_zero _)
  | cons y ys ih =>
    intro hA j h
    obtain ⟨a1, a2⟩ := List.pairwise_cons.1 hA
    rw [pl]
    by_cases c : tb y < tb s
    · rw [if_pos c]
      cases j with
      | zero => exact ⟨fun _ => Nat.succ_pos _, fun _ => c⟩
      | succ j =>
        have := ih a2 j (by simpa using h)
        simp only [List.getElem_cons_succ]
        rw [this]
        show j < _ ↔ j + 1 < (pl s ys).1 + 1
        omega
    · rw [if_neg c]
      refine ⟨fun h2 => absurd h2 ?_, fun h2 => absurd h2 (Nat.not_lt_zero _)⟩
      cases j with
      | zero => exact c
      | succ j =>
        simp only [List.getElem_cons_succ]
        intro h3
        exact c (bl_trans (a1 _ (List.getElem_mem (by simpa using h))) h3)
def blob (s : ByteArray) : List Int := leb s.size ++ num_PutBlobS.bs s
def blobs : List ByteArray → List Int
  | [] => []
  | s :: r => blob s ++ blobs r
def tplaces (L l : List ByteArray) : List Int := l.map (fun s => (((pl s L).1 : Nat) : Int))
def textOf (l : List ByteArray) : List Int := leb (tl l).length ++ blobs (tl l) ++ [(wd (tl l).length : Int)] ++ (packed (tplaces (tl l) l) (wd (tl l).length)).1
theorem blob_len {s : ByteArray} (h : s.size ≤ 65536) : (blob s).length ≤ 70000 := by
  have h10 := leb_length10 (v := s.size) (by omega)
  unfold blob
  rw [List.length_append, num_PutBlobS.bs_length]; omega
theorem blobs_len : ∀ (L : List ByteArray), (∀ s ∈ L, s.size ≤ 65536) → (blobs L).length ≤ 70000 * L.length
  | [], _ => Nat.zero_le _
  | s :: r, h => by
    have h1 := blob_len (h s (by simp))
    have h2 := blobs_len r (fun x hx => h x (by simp [hx]))
    rw [blobs, List.length_append, List.length_cons]; omega
theorem putblob_ev {b : List Int} {s : ByteArray} (hb : b.length ≤ 5000000000) (hs : s.size ≤ 65536) : Ev (fun k => num_PutBlobS.f k b s) (b ++ blob s) := by
  unfold num_PutBlobS.f num_PutBlob.f blob
  have hl := num_PutBlobS.bs_length s
  have h10 := leb_length10 (v := s.size) (by omega)
  have e : IntKind.u64.wrap ((num_PutBlobS.bs s).length : Int) = (s.size : Int) := by rw [hl, u64w_id (by omega) (by omega)]
  rw [e]
  have hp := putvar_ev (b := b) (v := (s.size : Int)) (by omega) (by omega) (by omega)
  rw [Int.toNat_natCast] at hp
  refine Ev.bind hp ?_
  have c : (b ++ leb s.size).length + (num_PutBlobS.bs s).length < 140737488355328 := by rw [List.length_append, hl]; omega
  simp only [if_pos c, List.append_assoc]
  exact Ev.now _
theorem texts_width_f (n : Nat) (hn : n ≤ 65536) : texts_width.f (n : Int) = some (wd n : Int) := by
  have e : IntKind.u64.wrap (mx (wrap64 ((n : Int) - 1)) 0) = ((n - 1 : Nat) : Int) := by
    rw [w64 (by omega) (by omega)]
    unfold mx
    split <;> (rw [u64w_id (by omega) (by omega)]; omega)
  unfold texts_width.f bits_Len.f wd
  rw [e, if_pos (Int.natCast_nonneg _), if_pos (by omega), Option.bind_some, Int.toNat_natCast]
theorem tplaces_len (L l : List ByteArray) : (tplaces L l).length = l.length := by simp [tplaces]
theorem tplaces_fit {L l : List ByteArray} (hL : Asc L) (hm : ∀ x ∈ l, x ∈ L) (hn : L.length ≤ 65536) : (∀ x ∈ tplaces L l, 0 ≤ x ∧ x < 18446744073709551616) ∧ fitAll (tplaces L l) (wd L.length) := by
  constructor
  · intro x hx
    obtain ⟨y, hy, rfl⟩ := List.mem_map.1 hx
    obtain ⟨h1, _⟩ := pl_get hL (hm y hy)
    omega
  · intro x hx
    obtain ⟨y, hy, rfl⟩ := List.mem_map.1 hx
    obtain ⟨h1, _⟩ := pl_get hL (hm y hy)
    have h2 := bitlen_lt (Nat.le_refl (Lib.bitLen (L.length - 1))) (by omega)
    rw [Int.toNat_natCast]
    exact Nat.lt_of_le_of_lt (by omega) h2
theorem tplaces_ok {L l : List ByteArray} (hL : Asc L) (hm : ∀ x ∈ l, x ∈ L) (hn : L.length ≤ 65536) (hl : l.length ≤ 65536) : (packed (tplaces L l) (wd L.length)).2 = 0 ∧ (packed (tplaces L l) (wd L.length)).1.length ≤ 8 * l.length + 1 := by
  have oa : okSize ((tplaces L l).length : Int) ((wd L.length : Nat) : Int) := ⟨by omega, by rw [tplaces_len]; omega, by omega, by have := wd_64 L.length hn; omega⟩
  unfold packed
  rw [if_pos oa, Int.toNat_natCast, if_pos (tplaces_fit hL hm hn).2]
  refine ⟨rfl, ?_⟩
  show (digs _ _).length ≤ _
  rw [digs_length, tplaces_len]
  have : l.length * wd L.length ≤ l.length * 64 := Nat.mul_le_mul_left _ (wd_64 _ hn)
  unfold sizeN; omega
theorem nan_f (s : ByteArray) : cmp_isNaN_string.f s = some false := by unfold cmp_isNaN_string.f; simp
theorem cless_f (a b : ByteArray) : cmp_Less_string.f a b = some (decide (tb a < tb b)) := by
  unfold cmp_Less_string.f
  rw [nan_f, Option.bind_some, if_neg (by decide), less_eq]
theorem bs_l0 (X : List ByteArray) (s : ByteArray) (hA : Asc X) (hm : s ∈ X) (hX : X.length ≤ 1000000) :
    ∀ (d lo hi : Nat), hi - lo ≤ d → lo ≤ (pl s X).1 → (pl s X).1 ≤ hi → hi ≤ X.length → Ev (fun k => slices_BinarySearch_string_string.l0 k X s X.length lo hi) (((pl s X).1 : Int), true) := by
  obtain ⟨hi1, he⟩ := pl_get hA hm
  intro d
  induction d with
  | zero =>
    intro lo hi hd h1 h2 h3
    have e : lo = (pl s X).1 := by omega
    refine Ev.step (f := fun _ => some (((pl s X).1 : Int), true)) (fun k => ?_) (Ev.now _)
    simp only [slices_BinarySearch_string_string.l0]
    rw [if_neg (by omega), e, if_pos (Int.ofNat_lt.2 hi1), if_pos (Int.natCast_nonneg _), if_pos (Int.ofNat_lt.2 hi1), rdo_get hi1, he, if_pos rfl]
  | succ d ih =>
    intro lo hi hd h1 h2 h3
    by_cases c : lo < hi
    · have em : wrap64 ((IntKind.u64.wrap (wrap64 ((lo : Int) + (hi : Int)))) / 2) = (((lo + hi) / 2 : Nat) : Int) := by
        rw [w64 (n := (lo : Int) + hi) (by omega) (by omega), u64w_id (by omega) (by omega), w64 (by omega) (by omega)]; omega
      have hmid : (lo + hi) / 2 < X.length := by omega
      have hiff := pl_iff s X hA ((lo + hi) / 2) hmid
      by_cases c2 : tb X[(lo + hi) / 2] < tb s
      · have h4 := hiff.1 c2
        refine Ev.step (fun k => ?_) (ih ((lo + hi) / 2 + 1) hi (by omega) (by omega) h2 h3)
        simp only [slices_BinarySearch_string_string.l0]
        rw [if_pos (Int.ofNat_lt.2 c), em, if_pos (Int.natCast_nonneg _), if_pos (Int.ofNat_lt.2 hmid), rdo_get hmid, cless_f, decide_eq_true c2, Option.bind_some, if_pos rfl, nx (by omega)]
      · have h4 : ¬ (lo + hi) / 2 < (pl s X).1 := fun h => c2 (hiff.2 h)
        refine Ev.step (fun k => ?_) (ih lo ((lo + hi) / 2) (by omega) h1 (by omega) (by omega))
        simp only [slices_BinarySearch_string_string.l0]
        rw [if_pos (Int.ofNat_lt.2 c), em, if_pos (Int.natCast_nonneg _), if_pos (Int.ofNat_lt.2 hmid), rdo_get hmid, cless_f, decide_eq_false c2, Option.bind_some, if_neg (by decide)]
    · exact ih lo hi (by omega) h1 h2 h3
theorem bs_f (X : List ByteArray) (s : ByteArray) (hA : Asc X) (hm : s ∈ X) (hX : X.length ≤ 1000000) : Ev (fun k => slices_BinarySearch_string_string.f k X s) (((pl s X).1 : Int), true) := by
  unfold slices_BinarySearch_string_string.f
  obtain ⟨h, _⟩ := pl_get hA hm
  exact bs_l0 X s hA hm hX X.length 0 X.length (by omega) (Nat.zero_le _) (by omega) (Nat.le_refl _)
theorem u64w_nat {j n : Nat} (h : j < n) (hn : n ≤ 65536) : IntKind.u64.wrap (j : Int) = (j : Int) := u64w_id (by omega) (by omega)
theorem len_ok {n : Nat} (h : n ≤ 65536) : n < 17592186044416 := by omega
theorem tput_l1 (l L : List ByteArray) (b : List Int) (hL : Asc L) (hm : ∀ x ∈ l, x ∈ L) (hn : L.length ≤ 65536) (hl : l.length ≤ 65536) (hb : b.length ≤ 5000000000) :
    ∀ (d i : Nat), l.length = i + d → Ev (fun k => texts_Put.l1 k L b ((tplaces L l).take i) l l.length i) (b ++ [(wd L.length : Int)] ++ (packed (tplaces L l) (wd L.length)).1, 0) := by
  intro d
  induction d with
  | zero =>
    intro i hd
    obtain ⟨p1, p2⟩ := tplaces_ok hL hm hn hl
    have hw := wd_64 L.length hn
    rw [List.take_of_length_le (by rw [tplaces_len]; omega)]
    refine Ev.step (f := fun k => _) (fun k => by
      simp only [texts_Put.l1]
      rw [if_neg (by omega), texts_width_f _ hn, Option.bind_some]) ?_
    refine Ev.bind (pack_f (tplaces L l) _ (tplaces_fit hL hm hn).1) ?_
    have i1 : b.length < 140737488355328 := by omega
    have i2 : (b ++ [(wd L.length : Int)]).length + (packed (tplaces L l) ((wd L.length : Nat) : Int)).1.length < 140737488355328 := by rw [List.length_append, List.length_singleton]; omega
    have i3 : ((wd L.length : Nat) : Int) % 256 = (wd L.length : Int) := by omega
    simp only [i3, if_pos i1, Option.bind_some, if_pos i2, p1]
    exact Ev.now _
  | succ d ih =>
    intro i hd
    have hi : i < l.length := by omega
    have hx := hm _ (List.getElem_mem hi)
    obtain ⟨hp, _⟩ := pl_get hL hx
    have e : (tplaces L l).take (i + 1) = (tplaces L l).take i ++ [(((pl l[i] L).1 : Nat) : Int)] := by
      rw [List.take_succ_eq_append_getElem (by rw [tplaces_len]; exact hi)]
      congr 2
      simp [tplaces]
    have hn2 := ih (i + 1) (by omega)
    rw [e] at hn2
    have c : ((tplaces L l).take i).length < 17592186044416 := len_ok (by rw [List.length_take, tplaces_len]; omega)
    refine Ev.step (f := fun k => (slices_BinarySearch_string_string.f k L l[i]).bind fun bt => if ((tplaces L l).take i).length < 17592186044416 then texts_Put.l1 k L b ((tplaces L l).take i ++ [IntKind.u64.wrap bt.1]) l l.length ((i + 1 : Nat) : Int) else none) (fun k => by
      simp only [texts_Put.l1]
      rw [if_pos (Int.ofNat_lt.2 hi), if_pos (Int.natCast_nonneg _), if_pos (Int.ofNat_lt.2 hi), rdo_get hi, nx (by omega)]) ?_
    refine Ev.bind (bs_f L l[i] hL hx (by omega)) ?_
    simp only [if_pos c, u64w_nat hp hn]
    exact hn2
theorem tput_l0 (l L : List ByteArray) (hn : L.length ≤ 65536) (hs : ∀ s ∈ L, s.size ≤ 65536) (res : List Int × Int) :
    ∀ (d j : Nat) (b : List Int), L.length = j + d → b.length ≤ 10 + 70000 * j → Ev (fun k => texts_Put.l1 k L (b ++ blobs (L.drop j)) [] l l.length 0) res → Ev (fun k => texts_Put.l0 k l L b L L.length j) res := by
  intro d
  induction d with
  | zero =>
    intro j b hd hb h
    rw [List.drop_of_length_le (by omega), blobs, List.append_nil] at h
    refine Ev.step (fun k => ?_) h
    simp only [texts_Put.l0]
    rw [if_neg (by omega)]
  | succ d ih =>
    intro j b hd hb h
    have hj : j < L.length := by omega
    have hsz := hs _ (List.getElem_mem hj)
    have hbl := blob_len hsz
    rw [dropc L j hj, blobs, ← List.append_assoc] at h
    have hn2 := ih (j + 1) (b ++ blob L[j]) (by omega) (by rw [List.length_append]; omega) h
    refine Ev.step (f := fun k => (num_PutBlobS.f k b L[j]).bind fun t => texts_Put.l0 k l L t L L.length ((j + 1 : Nat) : Int)) (fun k => by
      simp only [texts_Put.l0]
      rw [if_pos (Int.ofNat_lt.2 hj), if_pos (Int.natCast_nonneg _), if_pos (Int.ofNat_lt.2 hj), rdo_get hj, nx (by omega)]) ?_
    exact Ev.bind (putblob_ev (by omega) hsz) hn2
theorem long_f {l : List ByteArray} (hs : ∀ s ∈ l, s.size ≤ 65536) : slices_ContainsFunc_string_string.f l = some false := by
  unfold slices_ContainsFunc_string_string.f
  congr 1
  rw [List.any_eq_false]
  intro x hx
  have := hs x hx
  unfold slices_IndexFunc_string_string.p
  simp; omega
theorem textput_f (l : List ByteArray) (hl : l.length ≤ 65536) (hs : ∀ s ∈ l, s.size ≤ 65536) : Ev (fun k => texts_Put.f k l) (textOf l, 0) := by
  unfold texts_Put.f textOf
  have c : ¬ (l.length : Int) > 65536 := by omega
  simp only [if_neg c]
  rw [long_f hs]
  refine Ev.bind (Ev.now _) ?_
  have hL := tl_asc l
  have hn : (tl l).length ≤ 65536 := Nat.le_trans (tl_len l) hl
  have hLs : ∀ x ∈ tl l, x.size ≤ 65536 := fun x hx => hs x ((tl_mem l x).1 hx)
  have hm : ∀ x ∈ l, x ∈ tl l := fun x hx => (tl_mem l x).2 hx
  have e0 : IntKind.u64.wrap ((tl l).length : Int) = ((tl l).length : Int) := u64w_id (by omega) (by omega)
  have hp0 := putvar_ev (b := []) (v := ((tl l).length : Int)) (by omega) (by omega) (by decide)
  rw [Int.toNat_natCast, List.nil_append] at hp0
  refine Ev.step (f := fun k => (some (tl l)).bind fun t => (num_PutVar.f k ([] : List Int) (IntKind.u64.wrap (t.length : Int))).bind fun b => texts_Put.l0 k l t b t (t.length : Int) 0) (fun k => by
    simp only [texts_Put.j0]
    rw [if_neg (by decide), tl_f (by omega)]) ?_
  refine Ev.bind (Ev.now _) ?_
  rw [e0]
  refine Ev.bind hp0 ?_
  have h10 := leb_length10 (v := (tl l).length) (by omega)
  have hbl := blobs_len (tl l) hLs
  have hend := tput_l1 l (tl l) (leb (tl l).length ++ blobs (tl l)) hL hm hn hl (by rw [List.length_append]; omega) l.length 0 (by omega)
  rw [List.take_zero] at hend
  exact tput_l0 l (tl l) hn hLs _ (tl l).length 0 _ (by omega) (by omega) hend
def rises (out : List ByteArray) (s : ByteArray) : Prop := ∀ y, out.getLast? = some y → tb y < tb s
instance (out : List ByteArray) (s : ByteArray) : Decidable (rises out s) := by
  unfold rises
  cases h : out.getLast? with
  | none => exact isTrue (fun y e => by cases e)
  | some z => exact if c : tb z < tb s then isTrue (fun y e => by cases e; exact c) else isFalse (fun h => c (h z rfl))
end Go.Proofs.YtehbkhddbdgbcaaGreatDoor.Pure
