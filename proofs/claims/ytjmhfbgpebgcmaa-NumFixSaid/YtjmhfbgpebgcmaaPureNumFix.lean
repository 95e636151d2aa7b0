/- What estreatlaw01.NumFix computes is true for every number and size. -/
import Derived.Test.YtjmhfbgpebgcmaaPNumFixx3
import Derived.Lib.Zigzag
import Derived.Lib.BitFns
namespace Go.Proofs.Ytjmhfbgpebgcmaa.Pure
open Go.RowKit Go.Proofs.Ytjmhfbgpebgcmaa.PNumFix Go.Proofs.YtjmhfbgpebgcmaaW.PrintWords Go.Proofs.YtjmhfbgpebgcmaaW.PrintLast Go.Proofs.YtjmhfbgpebgcmaaW.PrintMore

/-! words of this session: plain facts on numbers and lists -/
theorem w64 {n : Int} (h0 : -9223372036854775808 ≤ n) (h1 : n ≤ 9223372036854775807) : wrap64 n = n := by unfold wrap64; omega
theorem u64w (n : Int) : IntKind.u64.wrap n = n % 18446744073709551616 := by simp [IntKind.wrap, IntKind.bits, IntKind.signed]
theorem u64w_id {n : Int} (h0 : 0 ≤ n) (h1 : n < 18446744073709551616) : IntKind.u64.wrap n = n := by rw [u64w]; omega
theorem rd_nat (xs : List Int) (i : Nat) : rd xs (i : Int) = xs.getD i 0 := by simp [rd]
theorem rd_get {xs : List Int} {i : Nat} (h : i < xs.length) : rd xs (i : Int) = xs[i] := by simp [rd, h]
theorem wf_i64 {x : Int} (h : (Lit.int .i64 x).wf = true) : -9223372036854775808 ≤ x ∧ x ≤ 9223372036854775807 := by
  simp [Lit.wf, IntKind.min, IntKind.max, IntKind.signed, IntKind.bits] at h; omega
theorem wf_u64 {x : Int} (h : (Lit.int .u64 x).wf = true) : 0 ≤ x ∧ x < 18446744073709551616 := by
  simp [Lit.wf, IntKind.min, IntKind.max, IntKind.signed, IntKind.bits] at h; omega
theorem wf_u8 {x : Int} (h : (Lit.int .u8 x).wf = true) : 0 ≤ x ∧ x < 256 := by
  simp [Lit.wf, IntKind.min, IntKind.max, IntKind.signed, IntKind.bits] at h; omega
theorem dropc {α : Type} (l : List α) (i : Nat) (h : i < l.length) : l.drop i = l[i] :: l.drop (i + 1) := List.drop_eq_getElem_cons h

/-! estreatref01.Same: are two lists one? -/
theorem same_l0 (xs ys : List Int) (hl : xs.length = ys.length) (hb : xs.length < 9223372036854775807) : ∀ (d k i : Nat), xs.length = i + d → d < k → estreatref01_Same.l0 k xs ys i = some (decide (xs.drop i = ys.drop i)) := by
  intro d
  induction d with
  | zero =>
    intro k i hd hk
    obtain ⟨k, rfl⟩ : ∃ m, k = m + 1 := ⟨k - 1, by omega⟩
    simp only [estreatref01_Same.l0]; rw [if_neg (by omega), List.drop_of_length_le (by omega), List.drop_of_length_le (by omega)]; simp
  | succ d ih =>
    intro k i hd hk
    obtain ⟨k, rfl⟩ : ∃ m, k = m + 1 := ⟨k - 1, by omega⟩
    simp only [estreatref01_Same.l0]
    have := ih k (i + 1) (by omega) (by omega)
    simp only [Int.natCast_add, Int.natCast_one] at this
    rw [if_pos (by omega), if_pos (by omega), if_pos (by omega), rd_get (by omega), rd_get (by omega), w64 (by omega) (by omega), this]
    have ex : xs.drop i = xs[i] :: xs.drop (i + 1) := List.drop_eq_getElem_cons (by omega)
    have ey : ys.drop i = ys[i] :: ys.drop (i + 1) := List.drop_eq_getElem_cons (by omega)
    rw [ex, ey]
    by_cases h : xs[i] = ys[i]
    · rw [if_pos h, h]; simp only [List.cons.injEq, true_and]
    · rw [if_neg h, decide_eq_false]; simp only [List.cons.injEq, h, false_and, not_false_eq_true]
theorem same_f (xs ys : List Int) (hb : xs.length < 9223372036854775807) : ∀ k, xs.length < k → estreatref01_Same.f k xs ys = some (decide (xs = ys)) := by
  intro k hk
  unfold estreatref01_Same.f
  by_cases h : xs.length = ys.length
  · rw [if_pos (by omega)]
    have := same_l0 xs ys h hb xs.length k 0 (by omega) hk
    simpa using this
  · rw [if_neg (by omega)]
    have : xs ≠ ys := fun e => h (by rw [e])
    simp [this]

/-! the short number of a number, and what puts it -/
def leb (v : Nat) : List Int := if h : v < 128 then [(v : Int)] else ((v % 128 + 128 : Nat) : Int) :: leb (v / 128)
theorem leb_small {v : Nat} (h : v < 128) : leb v = [(v : Int)] := by rw [leb, dif_pos h]
theorem leb_big {v : Nat} (h : ¬ v < 128) : leb v = ((v % 128 + 128 : Nat) : Int) :: leb (v / 128) := by rw [leb, dif_neg h]
theorem leb_length : ∀ (n v : Nat), v < 128 ^ (n + 1) → (leb v).length ≤ n + 1 := by
  intro n
  induction n with
  | zero => intro v h; rw [leb_small (by simpa using h)]; simp
  | succ n ih =>
    intro v h
    by_cases hv : v < 128
    · rw [leb_small hv]; simp
    · rw [leb_big hv, List.length_cons]
      have := ih (v / 128) (by rw [Nat.div_lt_iff_lt_mul (by decide)]; rw [Nat.pow_succ] at h; omega)
      omega
theorem p128 : (18446744073709551616 : Nat) < 128 ^ (9 + 1) := by decide
theorem leb_length10 {v : Nat} (h : v < 18446744073709551616) : (leb v).length ≤ 10 := leb_length 9 v (Nat.lt_trans h p128)

theorem putvar_l0 : ∀ (n k v : Nat) (b : List Int), v < 128 ^ (n + 1) → n < k → b.length + n < 140737488355328 → num_PutVar.l0 k b v = some (b ++ leb v) := by
  intro n
  induction n with
  | zero =>
    intro k v b hv hk hb
    obtain ⟨k, rfl⟩ : ∃ m, k = m + 1 := ⟨k - 1, by omega⟩
    simp only [num_PutVar.l0]
    rw [if_neg (by omega), if_pos (by omega), leb_small (by omega)]
    rw [Int.emod_eq_of_lt (by omega) (by omega)]
  | succ n ih =>
    intro k v b hv hk hb
    obtain ⟨k, rfl⟩ : ∃ m, k = m + 1 := ⟨k - 1, by omega⟩
    simp only [num_PutVar.l0]
    by_cases h : v < 128
    · rw [if_neg (by omega), if_pos (by omega), leb_small h, Int.emod_eq_of_lt (by omega) (by omega)]
    · rw [if_pos (by omega), if_pos (by omega), Lib.u8_or128_any _ (by omega) (by omega), leb_big h]
      have e : (v : Int) / 128 = ((v / 128 : Nat) : Int) := by omega
      rw [e, ih k (v / 128) _ (by rw [Nat.div_lt_iff_lt_mul (by decide)]; rw [Nat.pow_succ] at hv; omega) (by omega) (by simp; omega)]
      have e2 : (v : Int) % 256 % 128 + 128 = ((v % 128 + 128 : Nat) : Int) := by omega
      rw [e2]; simp
theorem putvar_f {v : Int} {b : List Int} {k : Nat} (h0 : 0 ≤ v) (h1 : v < 18446744073709551616) (hk : 10 ≤ k) (hb : b.length < 140737488000000) : num_PutVar.f k b v = some (b ++ leb v.toNat) := by
  obtain ⟨n, rfl⟩ := Int.eq_ofNat_of_zero_le h0
  unfold num_PutVar.f
  exact putvar_l0 9 k n b (Nat.lt_trans (by omega) p128) (by omega) (by omega)

/-! num.Zig -/
def zz (x : Int) : Int := if 0 ≤ x then 2 * x else -2 * x - 1
theorem zz_range {x : Int} (h0 : -9223372036854775808 ≤ x) (h1 : x ≤ 9223372036854775807) : 0 ≤ zz x ∧ zz x < 18446744073709551616 := by
  unfold zz; split <;> omega
theorem zig_f {x : Int} (h0 : -9223372036854775808 ≤ x) (h1 : x ≤ 9223372036854775807) : num_Zig.f x = some (zz x) := by
  unfold num_Zig.f zz
  by_cases h : 0 ≤ x
  · rw [if_pos h]
    have e1 : IntKind.u64.wrap (IntKind.u64.wrap x * 2) = (((2 * x).toNat : Nat) : Int) := by rw [u64w, u64w]; omega
    have e2 : IntKind.u64.wrap (x / 9223372036854775808) = ((0 : Nat) : Int) := by rw [u64w]; omega
    rw [e1, e2, bits_xor_u64_nat _ _ (by omega) (by omega), Nat.xor_zero]
    congr 1; omega
  · rw [if_neg h]
    have e1 : IntKind.u64.wrap (IntKind.u64.wrap x * 2) = (((2 * x + 18446744073709551616).toNat : Nat) : Int) := by rw [u64w, u64w]; omega
    have e2 : IntKind.u64.wrap (x / 9223372036854775808) = ((2 ^ 64 - 1 : Nat) : Int) := by rw [u64w]; omega
    rw [e1, e2, bits_xor_u64_nat _ _ (by omega) (by decide), Nat.xor_comm, Lib.xor_ones64 _ (by omega)]
    congr 1; omega

/-! num.PutFix and (num.Reader).Fix -/
def fixb : Nat → Nat → List Int
  | 0, _ => []
  | n + 1, v => ((v % 256 : Nat) : Int) :: fixb n (v / 256)
theorem fixb_length : ∀ n v, (fixb n v).length = n := by
  intro n
  induction n with
  | zero => intro v; rfl
  | succ n ih => intro v; simp [fixb, ih]
theorem putfix_l0 (N : Nat) (hN : N ≤ 8) : ∀ (d i v : Nat) (out : List Int), N = i + d → out.length + d < 140737488355328 → Ev (fun k => num_PutFix.l0 k out v N i) (out ++ fixb d v) := by
  intro d
  induction d with
  | zero =>
    intro i v out hi ho
    rw [fixb, List.append_nil]
    exact Ev.step (f := fun _ => some out) (fun k => by simp only [num_PutFix.l0]; rw [if_neg (by omega)]) (Ev.now _)
  | succ d ih =>
    intro i v out hi ho
    have := ih (i + 1) (v / 256) (out ++ [((v % 256 : Nat) : Int)]) (by omega) (by simp; omega)
    rw [List.append_assoc] at this
    refine Ev.step (fun k => ?_) this
    simp only [num_PutFix.l0]
    rw [if_pos (by omega), if_pos (by omega), w64 (by omega) (by omega)]
    rfl
theorem putfix_f (n v : Nat) (hn : n ≤ 8) : Ev (fun k => num_PutFix.f k [] v n) (fixb n v) := by
  have h := putfix_l0 n hn n 0 v [] (by omega) (by simp; omega)
  rw [List.nil_append] at h
  refine Ev.congr (fun k => ?_) h
  unfold num_PutFix.f
  rw [show mx 0 (mn (n : Int) 8) = (n : Int) by unfold mx mn; split <;> split <;> omega]
  rfl
theorem orM (t : Nat) {M : Int} (hM : M = ((2 ^ t : Nat) : Int)) (h c : Nat) {A : Int} (hA : A = ((h * 2 ^ (8 + t) : Nat) : Int)) (hc : c < 256) (hb : (h * 256 + c) * 2 ^ t < 18446744073709551616) :
    Go.bits .or .u64 A (IntKind.u64.wrap (IntKind.u64.wrap (c : Int) * M)) = (((h * 256 + c) * 2 ^ t : Nat) : Int) := by
  have e : (h * 256 + c) * 2 ^ t = h * 2 ^ (8 + t) + c * 2 ^ t := by rw [Nat.pow_add, Nat.add_mul, ← Nat.mul_assoc]
  have hlt : c * 2 ^ t < 2 ^ (8 + t) := by rw [Nat.pow_add]; exact Nat.mul_lt_mul_of_pos_right hc (Nat.two_pow_pos t)
  rw [e] at hb ⊢
  rw [hA, hM, u64w_id (n := (c : Int)) (by omega) (by omega), ← Int.natCast_mul, u64w_id (by exact Int.natCast_nonneg _) (Int.ofNat_lt.mpr (Nat.lt_of_le_of_lt (Nat.le_add_left _ _) hb)),
    bits_or_u64_nat _ _ (Nat.lt_of_le_of_lt (Nat.le_add_right _ _) hb) (Nat.lt_of_le_of_lt (Nat.le_add_left _ _) hb), Nat.mul_comm h, ← Nat.two_pow_add_eq_or_of_lt hlt]
theorem orL (h c : Nat) {A : Int} (hA : A = ((h * 256 : Nat) : Int)) (hc : c < 256) (hb : h * 256 + c < 18446744073709551616) :
    Go.bits .or .u64 A (IntKind.u64.wrap (c : Int)) = ((h * 256 + c : Nat) : Int) := by
  have := orM 0 (M := 1) (by rfl) h c (A := A) (by rw [hA, show 2 ^ (8 + 0) = 256 from rfl]) hc (by rw [Nat.pow_zero, Nat.mul_one]; exact hb)
  rw [Int.mul_one, u64w_id (n := IntKind.u64.wrap (c : Int)) (by rw [u64w]; omega) (by rw [u64w]; omega), Nat.pow_zero, Nat.mul_one] at this
  exact this
theorem fix_0 (k : Nat)  : num_Reader_Fix.j0 (k + 1) 0 false ([] : List Int) 0 0 0 = some (((0 : Nat) : Int), 0, 0, 0) := by
  have ht : num_Reader_Take.f ([] : List Int) 0 0 0 0 = some ([], 0, 0, 0) := by
    unfold num_Reader_Take.f
    rw [if_pos (by simp), if_neg (by simp), if_neg (by omega), if_neg (by simp)]
    rfl
  simp only [num_Reader_Fix.j0]
  rw [if_neg (by decide), ht, Option.bind_some]
  rw [if_neg (by simp), if_neg (by simp), if_neg (by simp), if_neg (by simp), if_neg (by simp), if_neg (by simp), if_neg (by simp), if_neg (by simp)]
  rfl
theorem fix_1 (k : Nat) (b0 : Nat) (h0 : b0 < 256) : num_Reader_Fix.j0 (k + 1) 1 false ([(b0 : Int)] : List Int) 0 0 0 = some ((((0) * 256 + b0 : Nat) : Int), 1, 0, 0) := by
  have ht : num_Reader_Take.f ([(b0 : Int)] : List Int) 0 0 0 1 = some ([(b0 : Int)], 1, 0, 0) := by
    unfold num_Reader_Take.f
    rw [if_pos (by simp), if_neg (by simp), if_neg (by omega), if_neg (by simp)]
    rfl
  simp only [num_Reader_Fix.j0]
  rw [if_neg (by decide), ht, Option.bind_some]
  rw [if_neg (by simp), if_neg (by simp), if_neg (by simp), if_neg (by simp), if_neg (by simp), if_neg (by simp), if_neg (by simp), if_pos (by simp), if_pos (by simp)]
  rw [show rd ([(b0 : Int)] : List Int) 0 = (b0 : Int) from rfl]
  rw [orL (0) b0 (by first | omega | (simp only [Nat.reducePow]; omega) | (simp only [Nat.reducePow]; done)) h0 (by omega)]
theorem fix_2 (k : Nat) (b0 b1 : Nat) (h0 : b0 < 256) (h1 : b1 < 256) : num_Reader_Fix.j0 (k + 1) 2 false ([(b0 : Int), (b1 : Int)] : List Int) 0 0 0 = some (((((0) * 256 + b1) * 256 + b0 : Nat) : Int), 2, 0, 0) := by
  have ht : num_Reader_Take.f ([(b0 : Int), (b1 : Int)] : List Int) 0 0 0 2 = some ([(b0 : Int), (b1 : Int)], 2, 0, 0) := by
    unfold num_Reader_Take.f
    rw [if_pos (by simp), if_neg (by simp), if_neg (by omega), if_neg (by simp)]
    rfl
  simp only [num_Reader_Fix.j0]
  rw [if_neg (by decide), ht, Option.bind_some]
  rw [if_neg (by simp), if_neg (by simp), if_neg (by simp), if_neg (by simp), if_neg (by simp), if_neg (by simp), if_pos (by simp), if_pos (by simp), if_pos (by simp)]
  rw [show rd ([(b0 : Int), (b1 : Int)] : List Int) 1 = (b1 : Int) from rfl]
  rw [show rd ([(b0 : Int), (b1 : Int)] : List Int) 0 = (b0 : Int) from rfl]
  rw [orM 8 (by decide) (0) b1 (by first | omega | (simp only [Nat.reducePow]; omega) | (simp only [Nat.reducePow]; done)) h1 (by first | omega | (simp only [Nat.reducePow]; omega) | (simp only [Nat.reducePow]; done))]
  rw [orL ((0) * 256 + b1) b0 (by first | omega | (simp only [Nat.reducePow]; omega) | (simp only [Nat.reducePow]; done)) h0 (by omega)]
theorem fix_3 (k : Nat) (b0 b1 b2 : Nat) (h0 : b0 < 256) (h1 : b1 < 256) (h2 : b2 < 256) : num_Reader_Fix.j0 (k + 1) 3 false ([(b0 : Int), (b1 : Int), (b2 : Int)] : List Int) 0 0 0 = some ((((((0) * 256 + b2) * 256 + b1) * 256 + b0 : Nat) : Int), 3, 0, 0) := by
  have ht : num_Reader_Take.f ([(b0 : Int), (b1 : Int), (b2 : Int)] : List Int) 0 0 0 3 = some ([(b0 : Int), (b1 : Int), (b2 : Int)], 3, 0, 0) := by
    unfold num_Reader_Take.f
    rw [if_pos (by simp), if_neg (by simp), if_neg (by omega), if_neg (by simp)]
    rfl
  simp only [num_Reader_Fix.j0]
  rw [if_neg (by decide), ht, Option.bind_some]
  rw [if_neg (by simp), if_neg (by simp), if_neg (by simp), if_neg (by simp), if_neg (by simp), if_pos (by simp), if_pos (by simp), if_pos (by simp), if_pos (by simp)]
  rw [show rd ([(b0 : Int), (b1 : Int), (b2 : Int)] : List Int) 2 = (b2 : Int) from rfl]
  rw [show rd ([(b0 : Int), (b1 : Int), (b2 : Int)] : List Int) 1 = (b1 : Int) from rfl]
  rw [show rd ([(b0 : Int), (b1 : Int), (b2 : Int)] : List Int) 0 = (b0 : Int) from rfl]
  rw [orM 16 (by decide) (0) b2 (by first | omega | (simp only [Nat.reducePow]; omega) | (simp only [Nat.reducePow]; done)) h2 (by first | omega | (simp only [Nat.reducePow]; omega) | (simp only [Nat.reducePow]; done))]
  rw [orM 8 (by decide) ((0) * 256 + b2) b1 (by first | omega | (simp only [Nat.reducePow]; omega) | (simp only [Nat.reducePow]; done)) h1 (by first | omega | (simp only [Nat.reducePow]; omega) | (simp only [Nat.reducePow]; done))]
  rw [orL (((0) * 256 + b2) * 256 + b1) b0 (by first | omega | (simp only [Nat.reducePow]; omega) | (simp only [Nat.reducePow]; done)) h0 (by omega)]
theorem fix_4 (k : Nat) (b0 b1 b2 b3 : Nat) (h0 : b0 < 256) (h1 : b1 < 256) (h2 : b2 < 256) (h3 : b3 < 256) : num_Reader_Fix.j0 (k + 1) 4 false ([(b0 : Int), (b1 : Int), (b2 : Int), (b3 : Int)] : List Int) 0 0 0 = some (((((((0) * 256 + b3) * 256 + b2) * 256 + b1) * 256 + b0 : Nat) : Int), 4, 0, 0) := by
  have ht : num_Reader_Take.f ([(b0 : Int), (b1 : Int), (b2 : Int), (b3 : Int)] : List Int) 0 0 0 4 = some ([(b0 : Int), (b1 : Int), (b2 : Int), (b3 : Int)], 4, 0, 0) := by
    unfold num_Reader_Take.f
    rw [if_pos (by simp), if_neg (by simp), if_neg (by omega), if_neg (by simp)]
    rfl
  simp only [num_Reader_Fix.j0]
  rw [if_neg (by decide), ht, Option.bind_some]
  rw [if_neg (by simp), if_neg (by simp), if_neg (by simp), if_neg (by simp), if_pos (by simp), if_pos (by simp), if_pos (by simp), if_pos (by simp), if_pos (by simp)]
  rw [show rd ([(b0 : Int), (b1 : Int), (b2 : Int), (b3 : Int)] : List Int) 3 = (b3 : Int) from rfl]
  rw [show rd ([(b0 : Int), (b1 : Int), (b2 : Int), (b3 : Int)] : List Int) 2 = (b2 : Int) from rfl]
  rw [show rd ([(b0 : Int), (b1 : Int), (b2 : Int), (b3 : Int)] : List Int) 1 = (b1 : Int) from rfl]
  rw [show rd ([(b0 : Int), (b1 : Int), (b2 : Int), (b3 : Int)] : List Int) 0 = (b0 : Int) from rfl]
  rw [orM 24 (by decide) (0) b3 (by first | omega | (simp only [Nat.reducePow]; omega) | (simp only [Nat.reducePow]; done)) h3 (by first | omega | (simp only [Nat.reducePow]; omega) | (simp only [Nat.reducePow]; done))]
  rw [orM 16 (by decide) ((0) * 256 + b3) b2 (by first | omega | (simp only [Nat.reducePow]; omega) | (simp only [Nat.reducePow]; done)) h2 (by first | omega | (simp only [Nat.reducePow]; omega) | (simp only [Nat.reducePow]; done))]
  rw [orM 8 (by decide) (((0) * 256 + b3) * 256 + b2) b1 (by first | omega | (simp only [Nat.reducePow]; omega) | (simp only [Nat.reducePow]; done)) h1 (by first | omega | (simp only [Nat.reducePow]; omega) | (simp only [Nat.reducePow]; done))]
  rw [orL ((((0) * 256 + b3) * 256 + b2) * 256 + b1) b0 (by first | omega | (simp only [Nat.reducePow]; omega) | (simp only [Nat.reducePow]; done)) h0 (by omega)]
theorem fix_5 (k : Nat) (b0 b1 b2 b3 b4 : Nat) (h0 : b0 < 256) (h1 : b1 < 256) (h2 : b2 < 256) (h3 : b3 < 256) (h4 : b4 < 256) : num_Reader_Fix.j0 (k + 1) 5 false ([(b0 : Int), (b1 : Int), (b2 : Int), (b3 : Int), (b4 : Int)] : List Int) 0 0 0 = some ((((((((0) * 256 + b4) * 256 + b3) * 256 + b2) * 256 + b1) * 256 + b0 : Nat) : Int), 5, 0, 0) := by
  have ht : num_Reader_Take.f ([(b0 : Int), (b1 : Int), (b2 : Int), (b3 : Int), (b4 : Int)] : List Int) 0 0 0 5 = some ([(b0 : Int), (b1 : Int), (b2 : Int), (b3 : Int), (b4 : Int)], 5, 0, 0) := by
    unfold num_Reader_Take.f
    rw [if_pos (by simp), if_neg (by simp), if_neg (by omega), if_neg (by simp)]
    rfl
  simp only [num_Reader_Fix.j0]
  rw [if_neg (by decide), ht, Option.bind_some]
  rw [if_neg (by simp), if_neg (by simp), if_neg (by simp), if_pos (by simp), if_pos (by simp), if_pos (by simp), if_pos (by simp), if_pos (by simp), if_pos (by simp)]
  rw [show rd ([(b0 : Int), (b1 : Int), (b2 : Int), (b3 : Int), (b4 : Int)] : List Int) 4 = (b4 : Int) from rfl]
  rw [show rd ([(b0 : Int), (b1 : Int), (b2 : Int), (b3 : Int), (b4 : Int)] : List Int) 3 = (b3 : Int) from rfl]
  rw [show rd ([(b0 : Int), (b1 : Int), (b2 : Int), (b3 : Int), (b4 : Int)] : List Int) 2 = (b2 : Int) from rfl]
  rw [show rd ([(b0 : Int), (b1 : Int), (b2 : Int), (b3 : Int), (b4 : Int)] : List Int) 1 = (b1 : Int) from rfl]
  rw [show rd ([(b0 : Int), (b1 : Int), (b2 : Int), (b3 : Int), (b4 : Int)] : List Int) 0 = (b0 : Int) from rfl]
  rw [orM 32 (by decide) (0) b4 (by first | omega | (simp only [Nat.reducePow]; omega) | (simp only [Nat.reducePow]; done)) h4 (by first | omega | (simp only [Nat.reducePow]; omega) | (simp only [Nat.reducePow]; done))]
  rw [orM 24 (by decide) ((0) * 256 + b4) b3 (by first | omega | (simp only [Nat.reducePow]; omega) | (simp only [Nat.reducePow]; done)) h3 (by first | omega | (simp only [Nat.reducePow]; omega) | (simp only [Nat.reducePow]; done))]
  rw [orM 16 (by decide) (((0) * 256 + b4) * 256 + b3) b2 (by first | omega | (simp only [Nat.reducePow]; omega) | (simp only [Nat.reducePow]; done)) h2 (by first | omega | (simp only [Nat.reducePow]; omega) | (simp only [Nat.reducePow]; done))]
  rw [orM 8 (by decide) ((((0) * 256 + b4) * 256 + b3) * 256 + b2) b1 (by first | omega | (simp only [Nat.reducePow]; omega) | (simp only [Nat.reducePow]; done)) h1 (by first | omega | (simp only [Nat.reducePow]; omega) | (simp only [Nat.reducePow]; done))]
  rw [orL (((((0) * 256 + b4) * 256 + b3) * 256 + b2) * 256 + b1) b0 (by first | omega | (simp only [Nat.reducePow]; omega) | (simp only [Nat.reducePow]; done)) h0 (by omega)]
theorem fix_6 (k : Nat) (b0 b1 b2 b3 b4 b5 : Nat) (h0 : b0 < 256) (h1 : b1 < 256) (h2 : b2 < 256) (h3 : b3 < 256) (h4 : b4 < 256) (h5 : b5 < 256) : num_Reader_Fix.j0 (k + 1) 6 false ([(b0 : Int), (b1 : Int), (b2 : Int), (b3 : Int), (b4 : Int), (b5 : Int)] : List Int) 0 0 0 = some (((((((((0) * 256 + b5) * 256 + b4) * 256 + b3) * 256 + b2) * 256 + b1) * 256 + b0 : Nat) : Int), 6, 0, 0) := by
  have ht : num_Reader_Take.f ([(b0 : Int), (b1 : Int), (b2 : Int), (b3 : Int), (b4 : Int), (b5 : Int)] : List Int) 0 0 0 6 = some ([(b0 : Int), (b1 : Int), (b2 : Int), (b3 : Int), (b4 : Int), (b5 : Int)], 6, 0, 0) := by
    unfold num_Reader_Take.f
    rw [if_pos (by simp), if_neg (by simp), if_neg (by omega), if_neg (by simp)]
    rfl
  simp only [num_Reader_Fix.j0]
  rw [if_neg (by decide), ht, Option.bind_some]
  rw [if_neg (by simp), if_neg (by simp), if_pos (by simp), if_pos (by simp), if_pos (by simp), if_pos (by simp), if_pos (by simp), if_pos (by simp), if_pos (by simp)]
  rw [show rd ([(b0 : Int), (b1 : Int), (b2 : Int), (b3 : Int), (b4 : Int), (b5 : Int)] : List Int) 5 = (b5 : Int) from rfl]
  rw [show rd ([(b0 : Int), (b1 : Int), (b2 : Int), (b3 : Int), (b4 : Int), (b5 : Int)] : List Int) 4 = (b4 : Int) from rfl]
  rw [show rd ([(b0 : Int), (b1 : Int), (b2 : Int), (b3 : Int), (b4 : Int), (b5 : Int)] : List Int) 3 = (b3 : Int) from rfl]
  rw [show rd ([(b0 : Int), (b1 : Int), (b2 : Int), (b3 : Int), (b4 : Int), (b5 : Int)] : List Int) 2 = (b2 : Int) from rfl]
  rw [show rd ([(b0 : Int), (b1 : Int), (b2 : Int), (b3 : Int), (b4 : Int), (b5 : Int)] : List Int) 1 = (b1 : Int) from rfl]
  rw [show rd ([(b0 : Int), (b1 : Int), (b2 : Int), (b3 : Int), (b4 : Int), (b5 : Int)] : List Int) 0 = (b0 : Int) from rfl]
  rw [orM 40 (by decide) (0) b5 (by first | omega | (simp only [Nat.reducePow]; omega) | (simp only [Nat.reducePow]; done)) h5 (by first | omega | (simp only [Nat.reducePow]; omega) | (simp only [Nat.reducePow]; done))]
  rw [orM 32 (by decide) ((0) * 256 + b5) b4 (by first | omega | (simp only [Nat.reducePow]; omega) | (simp only [Nat.reducePow]; done)) h4 (by first | omega | (simp only [Nat.reducePow]; omega) | (simp only [Nat.reducePow]; done))]
  rw [orM 24 (by decide) (((0) * 256 + b5) * 256 + b4) b3 (by first | omega | (simp only [Nat.reducePow]; omega) | (simp only [Nat.reducePow]; done)) h3 (by first | omega | (simp only [Nat.reducePow]; omega) | (simp only [Nat.reducePow]; done))]
  rw [orM 16 (by decide) ((((0) * 256 + b5) * 256 + b4) * 256 + b3) b2 (by first | omega | (simp only [Nat.reducePow]; omega) | (simp only [Nat.reducePow]; done)) h2 (by first | omega | (simp only [Nat.reducePow]; omega) | (simp only [Nat.reducePow]; done))]
  rw [orM 8 (by decide) (((((0) * 256 + b5) * 256 + b4) * 256 + b3) * 256 + b2) b1 (by first | omega | (simp only [Nat.reducePow]; omega) | (simp only [Nat.reducePow]; done)) h1 (by first | omega | (simp only [Nat.reducePow]; omega) | (simp only [Nat.reducePow]; done))]
  rw [orL ((((((0) * 256 + b5) * 256 + b4) * 256 + b3) * 256 + b2) * 256 + b1) b0 (by first | omega | (simp only [Nat.reducePow]; omega) | (simp only [Nat.reducePow]; done)) h0 (by omega)]
theorem fix_7 (k : Nat) (b0 b1 b2 b3 b4 b5 b6 : Nat) (h0 : b0 < 256) (h1 : b1 < 256) (h2 : b2 < 256) (h3 : b3 < 256) (h4 : b4 < 256) (h5 : b5 < 256) (h6 : b6 < 256) : num_Reader_Fix.j0 (k + 1) 7 false ([(b0 : Int), (b1 : Int), (b2 : Int), (b3 : Int), (b4 : Int), (b5 : Int), (b6 : Int)] : List Int) 0 0 0 = some ((((((((((0) * 256 + b6) * 256 + b5) * 256 + b4) * 256 + b3) * 256 + b2) * 256 + b1) * 256 + b0 : Nat) : Int), 7, 0, 0) := by
  have ht : num_Reader_Take.f ([(b0 : Int), (b1 : Int), (b2 : Int), (b3 : Int), (b4 : Int), (b5 : Int), (b6 : Int)] : List Int) 0 0 0 7 = some ([(b0 : Int), (b1 : Int), (b2 : Int), (b3 : Int), (b4 : Int), (b5 : Int), (b6 : Int)], 7, 0, 0) := by
    unfold num_Reader_Take.f
    rw [if_pos (by simp), if_neg (by simp), if_neg (by omega), if_neg (by simp)]
    rfl
  simp only [num_Reader_Fix.j0]
  rw [if_neg (by decide), ht, Option.bind_some]
  rw [if_neg (by simp), if_pos (by simp), if_pos (by simp), if_pos (by simp), if_pos (by simp), if_pos (by simp), if_pos (by simp), if_pos (by simp), if_pos (by simp)]
  rw [show rd ([(b0 : Int), (b1 : Int), (b2 : Int), (b3 : Int), (b4 : Int), (b5 : Int), (b6 : Int)] : List Int) 6 = (b6 : Int) from rfl]
  rw [show rd ([(b0 : Int), (b1 : Int), (b2 : Int), (b3 : Int), (b4 : Int), (b5 : Int), (b6 : Int)] : List Int) 5 = (b5 : Int) from rfl]
  rw [show rd ([(b0 : Int), (b1 : Int), (b2 : Int), (b3 : Int), (b4 : Int), (b5 : Int), (b6 : Int)] : List Int) 4 = (b4 : Int) from rfl]
  rw [show rd ([(b0 : Int), (b1 : Int), (b2 : Int), (b3 : Int), (b4 : Int), (b5 : Int), (b6 : Int)] : List Int) 3 = (b3 : Int) from rfl]
  rw [show rd ([(b0 : Int), (b1 : Int), (b2 : Int), (b3 : Int), (b4 : Int), (b5 : Int), (b6 : Int)] : List Int) 2 = (b2 : Int) from rfl]
  rw [show rd ([(b0 : Int), (b1 : Int), (b2 : Int), (b3 : Int), (b4 : Int), (b5 : Int), (b6 : Int)] : List Int) 1 = (b1 : Int) from rfl]
  rw [show rd ([(b0 : Int), (b1 : Int), (b2 : Int), (b3 : Int), (b4 : Int), (b5 : Int), (b6 : Int)] : List Int) 0 = (b0 : Int) from rfl]
  rw [orM 48 (by decide) (0) b6 (by first | omega | (simp only [Nat.reducePow]; omega) | (simp only [Nat.reducePow]; done)) h6 (by first | omega | (simp only [Nat.reducePow]; omega) | (simp only [Nat.reducePow]; done))]
  rw [orM 40 (by decide) ((0) * 256 + b6) b5 (by first | omega | (simp only [Nat.reducePow]; omega) | (simp only [Nat.reducePow]; done)) h5 (by first | omega | (simp only [Nat.reducePow]; omega) | (simp only [Nat.reducePow]; done))]
  rw [orM 32 (by decide) (((0) * 256 + b6) * 256 + b5) b4 (by first | omega | (simp only [Nat.reducePow]; omega) | (simp only [Nat.reducePow]; done)) h4 (by first | omega | (simp only [Nat.reducePow]; omega) | (simp only [Nat.reducePow]; done))]
  rw [orM 24 (by decide) ((((0) * 256 + b6) * 256 + b5) * 256 + b4) b3 (by first | omega | (simp only [Nat.reducePow]; omega) | (simp only [Nat.reducePow]; done)) h3 (by first | omega | (simp only [Nat.reducePow]; omega) | (simp only [Nat.reducePow]; done))]
  rw [orM 16 (by decide) (((((0) * 256 + b6) * 256 + b5) * 256 + b4) * 256 + b3) b2 (by first | omega | (simp only [Nat.reducePow]; omega) | (simp only [Nat.reducePow]; done)) h2 (by first | omega | (simp only [Nat.reducePow]; omega) | (simp only [Nat.reducePow]; done))]
  rw [orM 8 (by decide) ((((((0) * 256 + b6) * 256 + b5) * 256 + b4) * 256 + b3) * 256 + b2) b1 (by first | omega | (simp only [Nat.reducePow]; omega) | (simp only [Nat.reducePow]; done)) h1 (by first | omega | (simp only [Nat.reducePow]; omega) | (simp only [Nat.reducePow]; done))]
  rw [orL (((((((0) * 256 + b6) * 256 + b5) * 256 + b4) * 256 + b3) * 256 + b2) * 256 + b1) b0 (by first | omega | (simp only [Nat.reducePow]; omega) | (simp only [Nat.reducePow]; done)) h0 (by omega)]
theorem fix_8 (k : Nat) (b0 b1 b2 b3 b4 b5 b6 b7 : Nat) (h0 : b0 < 256) (h1 : b1 < 256) (h2 : b2 < 256) (h3 : b3 < 256) (h4 : b4 < 256) (h5 : b5 < 256) (h6 : b6 < 256) (h7 : b7 < 256) : num_Reader_Fix.j0 (k + 1) 8 false ([(b0 : Int), (b1 : Int), (b2 : Int), (b3 : Int), (b4 : Int), (b5 : Int), (b6 : Int), (b7 : Int)] : List Int) 0 0 0 = some (((((((((((0) * 256 + b7) * 256 + b6) * 256 + b5) * 256 + b4) * 256 + b3) * 256 + b2) * 256 + b1) * 256 + b0 : Nat) : Int), 8, 0, 0) := by
  have ht : num_Reader_Take.f ([(b0 : Int), (b1 : Int), (b2 : Int), (b3 : Int), (b4 : Int), (b5 : Int), (b6 : Int), (b7 : Int)] : List Int) 0 0 0 8 = some ([(b0 : Int), (b1 : Int), (b2 : Int), (b3 : Int), (b4 : Int), (b5 : Int), (b6 : Int), (b7 : Int)], 8, 0, 0) := by
    unfold num_Reader_Take.f
    rw [if_pos (by simp), if_neg (by simp), if_neg (by omega), if_neg (by simp)]
    rfl
  simp only [num_Reader_Fix.j0]
  rw [if_neg (by decide), ht, Option.bind_some]
  rw [if_pos (by simp), if_pos (by simp), if_pos (by simp), if_pos (by simp), if_pos (by simp), if_pos (by simp), if_pos (by simp), if_pos (by simp), if_pos (by simp)]
  rw [show rd ([(b0 : Int), (b1 : Int), (b2 : Int), (b3 : Int), (b4 : Int), (b5 : Int), (b6 : Int), (b7 : Int)] : List Int) 7 = (b7 : Int) from rfl]
  rw [show rd ([(b0 : Int), (b1 : Int), (b2 : Int), (b3 : Int), (b4 : Int), (b5 : Int), (b6 : Int), (b7 : Int)] : List Int) 6 = (b6 : Int) from rfl]
  rw [show rd ([(b0 : Int), (b1 : Int), (b2 : Int), (b3 : Int), (b4 : Int), (b5 : Int), (b6 : Int), (b7 : Int)] : List Int) 5 = (b5 : Int) from rfl]
  rw [show rd ([(b0 : Int), (b1 : Int), (b2 : Int), (b3 : Int), (b4 : Int), (b5 : Int), (b6 : Int), (b7 : Int)] : List Int) 4 = (b4 : Int) from rfl]
  rw [show rd ([(b0 : Int), (b1 : Int), (b2 : Int), (b3 : Int), (b4 : Int), (b5 : Int), (b6 : Int), (b7 : Int)] : List Int) 3 = (b3 : Int) from rfl]
  rw [show rd ([(b0 : Int), (b1 : Int), (b2 : Int), (b3 : Int), (b4 : Int), (b5 : Int), (b6 : Int), (b7 : Int)] : List Int) 2 = (b2 : Int) from rfl]
  rw [show rd ([(b0 : Int), (b1 : Int), (b2 : Int), (b3 : Int), (b4 : Int), (b5 : Int), (b6 : Int), (b7 : Int)] : List Int) 1 = (b1 : Int) from rfl]
  rw [show rd ([(b0 : Int), (b1 : Int), (b2 : Int), (b3 : Int), (b4 : Int), (b5 : Int), (b6 : Int), (b7 : Int)] : List Int) 0 = (b0 : Int) from rfl]
  rw [orM 56 (by decide) (0) b7 (by first | omega | (simp only [Nat.reducePow]; omega) | (simp only [Nat.reducePow]; done)) h7 (by first | omega | (simp only [Nat.reducePow]; omega) | (simp only [Nat.reducePow]; done))]
  rw [orM 48 (by decide) ((0) * 256 + b7) b6 (by first | omega | (simp only [Nat.reducePow]; omega) | (simp only [Nat.reducePow]; done)) h6 (by first | omega | (simp only [Nat.reducePow]; omega) | (simp only [Nat.reducePow]; done))]
  rw [orM 40 (by decide) (((0) * 256 + b7) * 256 + b6) b5 (by first | omega | (simp only [Nat.reducePow]; omega) | (simp only [Nat.reducePow]; done)) h5 (by first | omega | (simp only [Nat.reducePow]; omega) | (simp only [Nat.reducePow]; done))]
  rw [orM 32 (by decide) ((((0) * 256 + b7) * 256 + b6) * 256 + b5) b4 (by first | omega | (simp only [Nat.reducePow]; omega) | (simp only [Nat.reducePow]; done)) h4 (by first | omega | (simp only [Nat.reducePow]; omega) | (simp only [Nat.reducePow]; done))]
  rw [orM 24 (by decide) (((((0) * 256 + b7) * 256 + b6) * 256 + b5) * 256 + b4) b3 (by first | omega | (simp only [Nat.reducePow]; omega) | (simp only [Nat.reducePow]; done)) h3 (by first | omega | (simp only [Nat.reducePow]; omega) | (simp only [Nat.reducePow]; done))]
  rw [orM 16 (by decide) ((((((0) * 256 + b7) * 256 + b6) * 256 + b5) * 256 + b4) * 256 + b3) b2 (by first | omega | (simp only [Nat.reducePow]; omega) | (simp only [Nat.reducePow]; done)) h2 (by first | omega | (simp only [Nat.reducePow]; omega) | (simp only [Nat.reducePow]; done))]
  rw [orM 8 (by decide) (((((((0) * 256 + b7) * 256 + b6) * 256 + b5) * 256 + b4) * 256 + b3) * 256 + b2) b1 (by first | omega | (simp only [Nat.reducePow]; omega) | (simp only [Nat.reducePow]; done)) h1 (by first | omega | (simp only [Nat.reducePow]; omega) | (simp only [Nat.reducePow]; done))]
  rw [orL ((((((((0) * 256 + b7) * 256 + b6) * 256 + b5) * 256 + b4) * 256 + b3) * 256 + b2) * 256 + b1) b0 (by first | omega | (simp only [Nat.reducePow]; omega) | (simp only [Nat.reducePow]; done)) h0 (by omega)]

theorem fix_ev (n v : Nat) (hn : n ≤ 8) : Ev (fun k => num_Reader_Fix.f k (fixb n v) 0 0 0 n) (((v % 256 ^ n : Nat) : Int), (n : Int), 0, 0) := by
  refine Ev.congr (f := fun k => num_Reader_Fix.j0 k n false (fixb n v) 0 0 0) (fun k => by unfold num_Reader_Fix.f; rw [if_neg (by omega), decide_eq_false (by omega)]) ⟨1, fun k hk => ?_⟩
  obtain ⟨k, rfl⟩ : ∃ m, k = m + 1 := ⟨k - 1, by omega⟩
  have hm : ∀ x : Nat, x % 256 < 256 := fun x => by omega
  rcases (show n = 0 ∨ n = 1 ∨ n = 2 ∨ n = 3 ∨ n = 4 ∨ n = 5 ∨ n = 6 ∨ n = 7 ∨ n = 8 by omega) with rfl | rfl | rfl | rfl | rfl | rfl | rfl | rfl | rfl
  · exact (fix_0 k).trans (by rw [Nat.pow_zero, Nat.mod_one]; rfl)
  · exact (fix_1 k _ (hm _)).trans (by congr 3; omega)
  · exact (fix_2 k _ _ (hm _) (hm _)).trans (by congr 3; omega)
  · exact (fix_3 k _ _ _ (hm _) (hm _) (hm _)).trans (by congr 3; omega)
  · exact (fix_4 k _ _ _ _ (hm _) (hm _) (hm _) (hm _)).trans (by congr 3; omega)
  · exact (fix_5 k _ _ _ _ _ (hm _) (hm _) (hm _) (hm _) (hm _)).trans (by congr 3; omega)
  · exact (fix_6 k _ _ _ _ _ _ (hm _) (hm _) (hm _) (hm _) (hm _) (hm _)).trans (by congr 3; omega)
  · exact (fix_7 k _ _ _ _ _ _ _ (hm _) (hm _) (hm _) (hm _) (hm _) (hm _) (hm _)).trans (by congr 3; omega)
  · exact (fix_8 k _ _ _ _ _ _ _ _ (hm _) (hm _) (hm _) (hm _) (hm _) (hm _) (hm _) (hm _)).trans (by congr 3; omega)
theorem numawake : Ev (fun k => estreatlaw01_awake.f k) true := by
  unfold estreatlaw01_awake.f
  have hp : Ev (fun k => num_PutVar.f k [] 300) [172, 2] := ⟨10, fun k hk => by
    show num_PutVar.f k [] 300 = _
    rw [putvar_f (by decide) (by decide) hk (by decide)]
    rw [show Int.toNat 300 = 300 from rfl, leb_big (by decide), leb_small (by decide)]; decide⟩
  refine Ev.bind hp ?_
  refine Ev.bind (a := true) ⟨10, fun k hk => by
    have := same_f [172, 2] [172, 2] (by decide) k (by simp; omega)
    simpa using this⟩ ?_
  simp only [if_true]
  rw [zig_f (by decide) (by decide)]
  exact Ev.now _
theorem fix_law (n v : Nat) (low : Int) (hn : n ≤ 8) (hl : low = ((v % 256 ^ n : Nat) : Int)) : Ev (fun k => estreatlaw01_NumFix.j1 k v n low) true := by
  refine Ev.step (f := fun k => _) (fun k => by simp only [estreatlaw01_NumFix.j1]; rfl) ?_
  refine Ev.bind (putfix_f n v hn) ?_
  have hlen := fixb_length n v
  have hr : num_NewReader.f (fixb n v) = some (fixb n v, 0, 0, 0) := by unfold num_NewReader.f; rw [if_pos (by rw [hlen]; omega)]
  rw [hr]
  simp only [Option.bind_some]
  simp only [if_pos (show ((fixb n v).length : Int) = (n : Int) by rw [hlen])]
  refine Ev.bind (fix_ev n v hn) ?_
  simp only [if_pos hl.symm, num_Reader_Left.f, Option.bind_some]
  simp only [if_pos (show wrap64 (((fixb n v).length : Int) - n) = 0 by rw [hlen, w64 (by omega) (by omega)]; omega)]
  exact Ev.bind numawake (Ev.now _)
theorem fix_l0 (n v : Nat) (hn : n < 8) (hv : v < 18446744073709551616) : ∀ (d i : Nat), n = i + d → Ev (fun k => estreatlaw01_NumFix.l0 k v n ((256 ^ i : Nat) : Int) i) true := by
  intro d
  induction d with
  | zero =>
    intro i hi
    obtain rfl : n = i := by omega
    have hp : (256 ^ n : Nat) ≠ 0 := Nat.pos_iff_ne_zero.mp (Nat.pow_pos (by decide))
    refine Ev.step (fun k => ?_) (fix_law n v (((v % 256 ^ n : Nat)) : Int) (by omega) rfl)
    simp only [estreatlaw01_NumFix.l0]
    rw [if_neg (by omega), if_neg (show ¬ ((256 ^ n : Nat) : Int) = 0 from fun h => hp (Int.natCast_eq_zero.mp h)), Int.tmod_eq_emod_of_nonneg (by omega), ← Int.natCast_emod]
  | succ d ih =>
    intro i hi
    refine Ev.step (fun k => ?_) (ih (i + 1) (by omega))
    simp only [estreatlaw01_NumFix.l0]
    rw [if_pos (by omega), w64 (by omega) (by omega)]
    have e : IntKind.u64.wrap (((256 ^ i : Nat) : Int) * 256) = ((256 ^ (i + 1) : Nat) : Int) := by
      rcases (show i = 0 ∨ i = 1 ∨ i = 2 ∨ i = 3 ∨ i = 4 ∨ i = 5 ∨ i = 6 by omega) with rfl | rfl | rfl | rfl | rfl | rfl | rfl <;> (rw [u64w]; decide)
    rw [e]
    rfl
theorem NumFix : estreatlaw01_NumFix.Pure := by
  intro v0 s0 hv hs
  have hv' := wf_u64 hv
  have hs' := wf_u8 hs
  obtain ⟨v, rfl⟩ := Int.eq_ofNat_of_zero_le hv'.1
  obtain ⟨s, rfl⟩ := Int.eq_ofNat_of_zero_le hs'.1
  refine Ev.rounds ?_
  unfold estreatlaw01_NumFix.f
  have e : Int.tmod (wrap64 (s : Int)) 9 = ((s % 9 : Nat) : Int) := by rw [w64 (by omega) (by omega), Int.tmod_eq_emod_of_nonneg (by omega)]; omega
  rw [e]
  by_cases h : s % 9 < 8
  · simp only [if_pos (show ((s % 9 : Nat) : Int) < 8 by omega)]
    exact fix_l0 (s % 9) v h (by omega) (s % 9) 0 (by omega)
  · simp only [if_neg (show ¬ ((s % 9 : Nat) : Int) < 8 by omega)]
    have h8 : s % 9 = 8 := by omega
    rw [h8]
    exact fix_law 8 v v (by omega) (by rw [Nat.mod_eq_of_lt (by omega)])

end Go.Proofs.Ytjmhfbgpebgcmaa.Pure
