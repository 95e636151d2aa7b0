/- What is known of the numbers' forms. -/
import Derived.Test.YtbjnfephigcdkaaPNumPutsx1
import Derived.Lib.Zigzag
import Derived.Lib.BitFns
namespace Go.Proofs.Ytbjnfephigcdkaa.Pure
open Go.RowKit Go.Proofs.Ytbjnfephigcdkaa.PNumPuts Go.Proofs.YtbjnfephigcdkaaW.PrintWords Go.Proofs.YtbjnfephigcdkaaW.PrintLast Go.Proofs.YtbjnfephigcdkaaW.PrintMore

/-! words of this session: plain facts on numbers and lists -/
theorem w64 {n : Int} (h0 : -9223372036854775808 ≤ n) (h1 : n ≤ 9223372036854775807) : wrap64 n = n := by unfold wrap64; omega
theorem u64w (n : Int) : IntKind.u64.wrap n = n % 18446744073709551616 := by simp [IntKind.wrap, IntKind.bits, IntKind.signed]
theorem u64w_id {n : Int} (h0 : 0 ≤ n) (h1 : n < 18446744073709551616) : IntKind.u64.wrap n = n := by rw [u64w]; omega
theorem rd_nat (xs : List Int) (i : Nat) : rd xs (i : Int) = xs.getD i 0 := by simp [rd]
theorem rd_get {xs : List Int} {i : Nat} (h : i < xs.length) : rd xs (i : Int) = xs[i] := by simp [rd, h]
theorem wf_i64 {x : Int} (h : (Lit.int .i64 x).wf = true) : -9223372036854775808 ≤ x ∧ x ≤ 9223372036854775807 := by
  simp [Lit.wf, IntKind.min, IntKind.max, IntKind.signed, IntKind.bits] at h; omega
theorem wf_u64 {x : Int} (h : (Lit.int .u64 x).wf = true) : 0 ≤ x ∧ x < 18446744073709551616 := by
  simp [Lit.wf, IntKind.min, IntKind.max, IntKind.signed, IntKind.bits] at h; omega
theorem wf_u8 {x : Int} (h : (Lit.int .u8 x).wf = true) : 0 ≤ x ∧ x < 256 := by
  simp [Lit.wf, IntKind.min, IntKind.max, IntKind.signed, IntKind.bits] at h; omega
theorem dropc {α : Type} (l : List α) (i : Nat) (h : i < l.length) : l.drop i = l[i] :: l.drop (i + 1) := List.drop_eq_getElem_cons h

/-! the short number of a number, and what puts it -/
def leb (v : Nat) : List Int := if h : v < 128 then [(v : Int)] else ((v % 128 + 128 : Nat) : Int) :: leb (v / 128)
theorem leb_small {v : Nat} (h : v < 128) : leb v = [(v : Int)] := by rw [leb, dif_pos h]
theorem leb_big {v : Nat} (h : ¬ v < 128) : leb v = ((v % 128 + 128 : Nat) : Int) :: leb (v / 128) := by rw [leb, dif_neg h]
theorem leb_length : ∀ (n v : Nat), v < 128 ^ (n + 1) → (leb v).length ≤ n + 1 := by
  intro n
  induction n with
  | zero => intro v h; rw [leb_small (by simpa using h)]; simp
  | succ n ih =>
    intro v h
    by_cases hv : v < 128
    · rw [leb_small hv]; simp
    · rw [leb_big hv, List.length_cons]
      have := ih (v / 128) (by rw [Nat.div_lt_iff_lt_mul (by decide)]; rw [Nat.pow_succ] at h; omega)
      omega
theorem p128 : (18446744073709551616 : Nat) < 128 ^ (9 + 1) := by decide
theorem leb_length10 {v : Nat} (h : v < 18446744073709551616) : (leb v).length ≤ 10 := leb_length 9 v (Nat.lt_trans h p128)

theorem putvar_l0 : ∀ (n k v : Nat) (b : List Int), v < 128 ^ (n + 1) → n < k → b.length + n < 140737488355328 → num_PutVar.l0 k b v = some (b ++ leb v) := by
  intro n
  induction n with
  | zero =>
    intro k v b hv hk hb
    obtain ⟨k, rfl⟩ : ∃ m, k = m + 1 := ⟨k - 1, by omega⟩
    simp only [num_PutVar.l0]
    rw [if_neg (by omega), if_pos (by omega), leb_small (by omega)]
    rw [Int.emod_eq_of_lt (by omega) (by omega)]
  | succ n ih =>
    intro k v b hv hk hb
    obtain ⟨k, rfl⟩ : ∃ m, k = m + 1 := ⟨k - 1, by omega⟩
    simp only [num_PutVar.l0]
    by_cases h : v < 128
    · rw [if_neg (by omega), if_pos (by omega), leb_small h, Int.emod_eq_of_lt (by omega) (by omega)]
    · rw [if_pos (by omega), if_pos (by omega), Lib.u8_or128_any _ (by omega) (by omega), leb_big h]
      have e : (v : Int) / 128 = ((v / 128 : Nat) : Int) := by omega
      rw [e, ih k (v / 128) _ (by rw [Nat.div_lt_iff_lt_mul (by decide)]; rw [Nat.pow_succ] at hv; omega) (by omega) (by simp; omega)]
      have e2 : (v : Int) % 256 % 128 + 128 = ((v % 128 + 128 : Nat) : Int) := by omega
      rw [e2]; simp
theorem putvar_f {v : Int} {b : List Int} {k : Nat} (h0 : 0 ≤ v) (h1 : v < 18446744073709551616) (hk : 10 ≤ k) (hb : b.length < 140737488000000) : num_PutVar.f k b v = some (b ++ leb v.toNat) := by
  obtain ⟨n, rfl⟩ := Int.eq_ofNat_of_zero_le h0
  unfold num_PutVar.f
  exact putvar_l0 9 k n b (Nat.lt_trans (by omega) p128) (by omega) (by omega)

theorem refvar_f : ∀ (n k v : Nat), v < 128 ^ (n + 1) → v < 18446744073709551616 → n < 100 → n < k → estreatref01_Var.f k v = some (leb v) := by
  intro n
  induction n with
  | zero =>
    intro k v hv h64 hn hk
    obtain ⟨k, rfl⟩ : ∃ m, k = m + 1 := ⟨k - 1, by omega⟩
    simp only [estreatref01_Var.f]
    rw [if_pos (by omega), leb_small (by omega), Int.emod_eq_of_lt (by omega) (by omega)]
  | succ n ih =>
    intro k v hv h64 hn hk
    obtain ⟨k, rfl⟩ : ∃ m, k = m + 1 := ⟨k - 1, by omega⟩
    simp only [estreatref01_Var.f]
    by_cases h : v < 128
    · rw [if_pos (by omega), leb_small h, Int.emod_eq_of_lt (by omega) (by omega)]
    · rw [if_neg (by omega), leb_big h]
      have hp : v / 128 < 128 ^ (n + 1) := by rw [Nat.div_lt_iff_lt_mul (by decide)]; rw [Nat.pow_succ] at hv; omega
      have e : IntKind.u64.wrap (Int.tdiv (v : Int) 128) = ((v / 128 : Nat) : Int) := by
        rw [Int.tdiv_eq_ediv_of_nonneg (by omega), u64w_id (by omega) (by omega)]; omega
      have e2 : IntKind.u64.wrap (128 + Int.tmod (v : Int) 128) % 256 = ((v % 128 + 128 : Nat) : Int) := by
        rw [Int.tmod_eq_emod_of_nonneg (by omega), u64w_id (by omega) (by omega)]; omega
      have hl := leb_length n (v / 128) hp
      rw [e, e2, ih k (v / 128) hp (by omega) (by omega) (by omega)]
      simp only [Option.bind_some]
      rw [if_pos (by simp; omega)]; simp
theorem refvar {v : Int} {k : Nat} (h0 : 0 ≤ v) (h1 : v < 18446744073709551616) (hk : 10 ≤ k) : estreatref01_Var.f k v = some (leb v.toNat) := by
  obtain ⟨n, rfl⟩ := Int.eq_ofNat_of_zero_le h0
  exact refvar_f 9 k n (Nat.lt_trans (by omega) p128) (by omega) (by omega) (by omega)

/-! estreatref01.Same: are two lists one? -/
theorem same_l0 (xs ys : List Int) (hl : xs.length = ys.length) (hb : xs.length < 9223372036854775807) : ∀ (d k i : Nat), xs.length = i + d → d < k → estreatref01_Same.l0 k xs ys i = some (decide (xs.drop i = ys.drop i)) := by
  intro d
  induction d with
  | zero =>
    intro k i hd hk
    obtain ⟨k, rfl⟩ : ∃ m, k = m + 1 := ⟨k - 1, by omega⟩
    simp only [estreatref01_Same.l0]; rw [if_neg (by omega), List.drop_of_length_le (by omega), List.drop_of_length_le (by omega)]; simp
  | succ d ih =>
    intro k i hd hk
    obtain ⟨k, rfl⟩ : ∃ m, k = m + 1 := ⟨k - 1, by omega⟩
    simp only [estreatref01_Same.l0]
    have := ih k (i + 1) (by omega) (by omega)
    simp only [Int.natCast_add, Int.natCast_one] at this
    rw [if_pos (by omega), if_pos (by omega), if_pos (by omega), rd_get (by omega), rd_get (by omega), w64 (by omega) (by omega), this]
    have ex : xs.drop i = xs[i] :: xs.drop (i + 1) := List.drop_eq_getElem_cons (by omega)
    have ey : ys.drop i = ys[i] :: ys.drop (i + 1) := List.drop_eq_getElem_cons (by omega)
    rw [ex, ey]
    by_cases h : xs[i] = ys[i]
    · rw [if_pos h, h]; simp only [List.cons.injEq, true_and]
    · rw [if_neg h, decide_eq_false]; simp only [List.cons.injEq, h, false_and, not_false_eq_true]
theorem same_f (xs ys : List Int) (hb : xs.length < 9223372036854775807) : ∀ k, xs.length < k → estreatref01_Same.f k xs ys = some (decide (xs = ys)) := by
  intro k hk
  unfold estreatref01_Same.f
  by_cases h : xs.length = ys.length
  · rw [if_pos (by omega)]
    have := same_l0 xs ys h hb xs.length k 0 (by omega) hk
    simpa using this
  · rw [if_neg (by omega)]
    have : xs ≠ ys := fun e => h (by rw [e])
    simp [this]

/-! num.Zig -/
def zz (x : Int) : Int := if 0 ≤ x then 2 * x else -2 * x - 1
theorem zz_range {x : Int} (h0 : -9223372036854775808 ≤ x) (h1 : x ≤ 9223372036854775807) : 0 ≤ zz x ∧ zz x < 18446744073709551616 := by
  unfold zz; split <;> omega
theorem zig_f {x : Int} (h0 : -9223372036854775808 ≤ x) (h1 : x ≤ 9223372036854775807) : num_Zig.f x = some (zz x) := by
  unfold num_Zig.f zz
  by_cases h : 0 ≤ x
  · rw [if_pos h]
    have e1 : IntKind.u64.wrap (IntKind.u64.wrap x * 2) = (((2 * x).toNat : Nat) : Int) := by rw [u64w, u64w]; omega
    have e2 : IntKind.u64.wrap (x / 9223372036854775808) = ((0 : Nat) : Int) := by rw [u64w]; omega
    rw [e1, e2, bits_xor_u64_nat _ _ (by omega) (by omega), Nat.xor_zero]
    congr 1; omega
  · rw [if_neg h]
    have e1 : IntKind.u64.wrap (IntKind.u64.wrap x * 2) = (((2 * x + 18446744073709551616).toNat : Nat) : Int) := by rw [u64w, u64w]; omega
    have e2 : IntKind.u64.wrap (x / 9223372036854775808) = ((2 ^ 64 - 1 : Nat) : Int) := by rw [u64w]; omega
    rw [e1, e2, bits_xor_u64_nat _ _ (by omega) (by decide), Nat.xor_comm, Lib.xor_ones64 _ (by omega)]
    congr 1; omega

theorem refzig_f {x : Int} (h0 : -9223372036854775808 ≤ x) (h1 : x ≤ 9223372036854775807) : estreatref01_Zig.f x = some (zz x) := by
  unfold estreatref01_Zig.f zz
  by_cases h : 0 ≤ x
  · rw [if_pos h, if_pos h, u64w, u64w]; congr 1; omega
  · rw [if_neg h, if_neg h, u64w, u64w, u64w]; unfold wrap64; congr 1; omega

/-! num.Zag, estreatref01.Zag -/
def zag (v : Nat) : Int := if v % 2 = 0 then ((v / 2 : Nat) : Int) else -((v / 2 : Nat) : Int) - 1
theorem xor_i64_zero (x : Nat) (hx : x < 9223372036854775808) : Go.bits .xor .i64 (x : Int) 0 = (x : Int) := by
  show IntKind.i64.wrap ((BitVec.ofInt 64 (x : Int) ^^^ BitVec.ofInt 64 0).toNat : Int) = _
  have h2 : (BitVec.ofInt 64 (x : Int)).toNat = x := by
    rw [BitVec.ofInt_natCast, BitVec.toNat_ofNat]; exact Nat.mod_eq_of_lt (by omega)
  rw [BitVec.toNat_xor, h2, show (BitVec.ofInt 64 0).toNat = 0 by decide, Nat.xor_zero, IntKind.wrap_i64]; omega
theorem xor_i64_ones (x : Nat) (hx : x < 9223372036854775808) : Go.bits .xor .i64 (x : Int) (-1) = -(x : Int) - 1 := by
  rw [← Lib.i64_not x hx]
  show IntKind.i64.wrap ((BitVec.ofInt 64 (x : Int) ^^^ BitVec.ofInt 64 (-1)).toNat : Int) = IntKind.i64.wrap ((BitVec.ofInt 64 (-1) ^^^ BitVec.ofInt 64 (x : Int)).toNat : Int)
  rw [BitVec.xor_comm]
theorem zag_f (v : Nat) (hv : v < 18446744073709551616) : num_Zag.f v = some (zag v) := by
  unfold num_Zag.f zag
  have h1 : wrap64 ((v : Int) / 2) = ((v / 2 : Nat) : Int) := by rw [w64 (by omega) (by omega)]; omega
  rw [h1, Lib.u64_and1 _ (by omega) (by omega)]
  by_cases h : v % 2 = 0
  · rw [if_pos h, show ((v : Int) % 2) = 0 by omega, w64 (n := 0) (by omega) (by omega), w64 (by omega) (by omega), Int.neg_zero, xor_i64_zero _ (by omega)]
  · rw [if_neg h, show ((v : Int) % 2) = 1 by omega, w64 (n := 1) (by omega) (by omega), w64 (by omega) (by omega), xor_i64_ones _ (by omega)]
theorem zag_range {v : Nat} (hv : v < 18446744073709551616) : -9223372036854775808 ≤ zag v ∧ zag v ≤ 9223372036854775807 := by
  unfold zag; split <;> omega

theorem refzag_f (v : Nat) (hv : v < 18446744073709551616) : estreatref01_Zag.f v = some (zag v) := by
  unfold estreatref01_Zag.f zag
  rw [Int.tmod_eq_emod_of_nonneg (by omega), Int.tdiv_eq_ediv_of_nonneg (by omega), u64w_id (n := (v : Int) / 2) (by omega) (by omega), w64 (n := (v : Int) / 2) (by omega) (by omega)]
  by_cases h : v % 2 = 0
  · rw [if_pos (by omega), if_pos h]; congr 1
  · rw [if_neg (by omega), if_neg h, w64 (n := -((v : Int) / 2)) (by omega) (by omega), w64 (by omega) (by omega)]; congr 1

theorem numawake : Ev (fun k => estreatlaw01_awake.f k) true := by
  unfold estreatlaw01_awake.f
  have hp : Ev (fun k => num_PutVar.f k [] 300) [172, 2] := ⟨10, fun k hk => by
    show num_PutVar.f k [] 300 = _
    rw [putvar_f (by decide) (by decide) hk (by decide)]
    rw [show Int.toNat 300 = 300 from rfl, leb_big (by decide), leb_small (by decide)]; decide⟩
  refine Ev.bind hp ?_
  refine Ev.bind (a := true) ⟨10, fun k hk => by
    have := same_f [172, 2] [172, 2] (by decide) k (by simp; omega)
    simpa using this⟩ ?_
  simp only [if_true]
  rw [zig_f (by decide) (by decide)]
  exact Ev.now _

/-! num.PutFix and (num.Reader).Fix -/
def fixb : Nat → Nat → List Int
  | 0, _ => []
  | n + 1, v => ((v % 256 : Nat) : Int) :: fixb n (v / 256)
theorem fixb_length : ∀ n v, (fixb n v).length = n := by
  intro n
  induction n with
  | zero => intro v; rfl
  | succ n ih => intro v; simp [fixb, ih]

/-! estreatref01.Fix and Blob -/
theorem rfixb_l0 (N : Int) : ∀ (d i v : Nat) (out : List Int), v < 18446744073709551616 → (max 0 (min N 8)).toNat = i + d → out.length + d < 140737488355328 → Ev (fun k => estreatref01_Fix.l0 k v N out i) (out ++ fixb d v) := by
  intro d
  induction d with
  | zero =>
    intro i v out hv hi ho
    rw [fixb, List.append_nil]
    refine Ev.step (f := fun _ => some out) (fun k => ?_) (Ev.now _)
    simp only [estreatref01_Fix.l0]
    by_cases h : (i : Int) < N
    · rw [if_pos h, if_neg (by omega)]
    · rw [if_neg h]
  | succ d ih =>
    intro i v out hv hi ho
    have := ih (i + 1) (v / 256) (out ++ [((v % 256 : Nat) : Int)]) (by omega) (by omega) (by simp; omega)
    rw [List.append_assoc] at this
    have e1 : Int.tmod (v : Int) 256 % 256 = ((v % 256 : Nat) : Int) := by rw [Int.tmod_eq_emod_of_nonneg (by omega)]; omega
    have e2 : IntKind.u64.wrap (Int.tdiv (v : Int) 256) = ((v / 256 : Nat) : Int) := by rw [Int.tdiv_eq_ediv_of_nonneg (by omega), u64w_id (by omega) (by omega)]; omega
    refine Ev.step (fun k => ?_) this
    simp only [estreatref01_Fix.l0]
    rw [if_pos (by omega), if_pos (by omega), if_pos (by omega), w64 (by omega) (by omega), e1, e2]
    rfl
theorem rfixb_f (n : Nat) (N : Int) (hn : n < 18446744073709551616) : Ev (fun k => estreatref01_Fix.f k n N) (fixb (max 0 (min N 8)).toNat n) := by
  have h := rfixb_l0 N (max 0 (min N 8)).toNat 0 n [] hn (by omega) (by simp; omega)
  rw [List.nil_append] at h
  exact h
theorem rblob_f (l : List Int) (hl : l.length ≤ 1000) : Ev (fun k => estreatref01_Blob.f k l) (leb l.length ++ l) := by
  have h10 := leb_length10 (v := l.length) (by omega)
  refine Ev.bind (a := leb l.length) ⟨10, fun k hk => ?_⟩ ?_
  · have := refvar (v := (l.length : Int)) (k := k) (by omega) (by omega) hk
    rw [Int.toNat_natCast] at this
    show estreatref01_Var.f k (IntKind.u64.wrap (l.length : Int)) = _
    rw [u64w_id (by omega) (by omega)]
    exact this
  · refine ⟨0, fun k _ => ?_⟩
    show (if _ then _ else _) = _
    rw [if_pos (by omega)]
theorem rvar_ev (n : Nat) (hn : n < 18446744073709551616) : Ev (fun k => estreatref01_Var.f k n) (leb n) := ⟨10, fun k hk => by
  have := refvar (v := (n : Int)) (k := k) (by omega) (by omega) hk
  rwa [Int.toNat_natCast] at this⟩

end Go.Proofs.Ytbjnfephigcdkaa.Pure
