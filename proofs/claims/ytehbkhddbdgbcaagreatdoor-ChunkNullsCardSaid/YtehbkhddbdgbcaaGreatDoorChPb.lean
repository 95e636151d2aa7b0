/- What the ways get of what they put, in plain words. -/
import Derived.Test.YtehbkhddbdgbcaaGreatDoorChPg
import Derived.Test.YtehbkhddbdgbcaaGreatDoorPChunkBackx5
import Derived.Test.YtehbkhddbdgbcaaGreatDoorPChunkBackx8
import Derived.Test.YtehbkhddbdgbcaaGreatDoorPChunkBackx12
namespace Go.Proofs.YtehbkhddbdgbcaaGreatDoor.Pure
open Go.RowKit Go.Proofs.YtehbkhddbdgbcaaGreatDoor.PChunkBack Go.Proofs.YtehbkhddbdgbcaaGreatDoorW.PrintWords Go.Proofs.YtehbkhddbdgbcaaGreatDoorW.PrintLast Go.Proofs.YtehbkhddbdgbcaaGreatDoorW.PrintMore
set_option linter.unusedVariables false
set_option linter.unusedSimpArgs false
theorem same_l0 (xs ys : List Int) (hl : xs.length = ys.length) (hb : xs.length < 9223372036854775807) : ∀ (d k i : Nat), xs.length = i + d → d < k → estreatref01_Same.l0 k xs ys i = some (decide (xs.drop i = ys.drop i)) := by
  intro d
  induction d with
  | zero =>
    intro k i hd hk
    obtain ⟨k, rfl⟩ : ∃ m, k = m + 1 := ⟨k - 1, by omega⟩
    simp only [estreatref01_Same.l0]; rw [if_neg (by omega), List.drop_of_length_le (by omega), List.drop_of_length_le (by omega)]; simp
  | succ d ih =>
    intro k i hd hk
    obtain ⟨k, rfl⟩ : ∃ m, k = m + 1 := ⟨k - 1, by omega⟩
    simp only [estreatref01_Same.l0]
    have := ih k (i + 1) (by omega) (by omega)
    simp only [Int.natCast_add, Int.natCast_one] at this
    rw [if_pos (by omega), if_pos (by omega), if_pos (by omega), rd_get (by omega), rd_get (by omega), w64 (by omega) (by omega), this]
    have ex : xs.drop i = xs[i] :: xs.drop (i + 1) := List.drop_eq_getElem_cons (by omega)
    have ey : ys.drop i = ys[i] :: ys.drop (i + 1) := List.drop_eq_getElem_cons (by omega)
    rw [ex, ey]
    by_cases h : xs[i] = ys[i]
    · rw [if_pos h, h]; simp only [List.cons.injEq, true_and]
    · rw [if_neg h, decide_eq_false]; simp only [List.cons.injEq, h, false_and, not_false_eq_true]
theorem same_f (xs ys : List Int) (hb : xs.length < 9223372036854775807) : ∀ k, xs.length < k → estreatref01_Same.f k xs ys = some (decide (xs = ys)) := by
  intro k hk
  unfold estreatref01_Same.f
  by_cases h : xs.length = ys.length
  · rw [if_pos (by omega)]
    have := same_l0 xs ys h hb xs.length k 0 (by omega) hk
    simpa using this
  · rw [if_neg (by omega)]
    have : xs ≠ ys := fun e => h (by rw [e])
    simp [this]
theorem leN_digs : ∀ s N, N < 256 ^ s → leN (digs s N) = N := by
  intro s; induction s with
  | zero => intro N h; simp at h; simp [digs, leN, h]
  | succ s ih =>
    intro N h
    simp only [digs, leN]
    rw [ih (N / 256) (by rw [Nat.div_lt_iff_lt_mul (by decide)]; rw [Nat.pow_succ] at h; exact h)]
    omega
theorem digs_bytes : ∀ s N, Bytes (digs s N) := by
  intro s; induction s with
  | zero => intro N x hx; simp [digs] at hx
  | succ s ih =>
    intro N x hx
    simp only [digs, List.mem_cons] at hx
    rcases hx with rfl | hx
    · omega
    · exact ih _ x hx
theorem foldmn_le : ∀ (l : List Int) (x : Int), l.foldl mn x ≤ x ∧ ∀ y ∈ l, l.foldl mn x ≤ y := by
  intro l
  induction l with
  | nil => intro x; exact ⟨Int.le_refl _, by simp⟩
  | cons y l ih =>
    intro x
    rw [List.foldl_cons]
    obtain ⟨h1, h2⟩ := ih (mn x y)
    obtain ⟨g1, g2, _⟩ := mn_le x y
    refine ⟨Int.le_trans h1 g1, fun z hz => ?_⟩
    rcases List.mem_cons.1 hz with rfl | hz
    · exact Int.le_trans h1 g2
    · exact h2 z hz
theorem minOf_le {l : List Int} {y : Int} (hy : y ∈ l) : minOf l ≤ y := by
  cases l with
  | nil => simp at hy
  | cons x l =>
    obtain ⟨h1, h2⟩ := foldmn_le l x
    rcases List.mem_cons.1 hy with rfl | hy
    · exact h1
    · exact h2 y hy
def sums : Int → List Int → List Int
  | _, [] => []
  | last, x :: l => wrap64 (last + x) :: sums (wrap64 (last + x)) l
theorem sums_length : ∀ (l : List Int) (a : Int), (sums a l).length = l.length := by
  intro l; induction l with
  | nil => intro a; rfl
  | cons x l ih => intro a; simp [sums, ih]
theorem sums_l0 (l : List Int) (hn : l.length ≤ 65536) : ∀ (d k i : Nat) (out : List Int) (last : Int), l.length = i + d → d < k → out.length ≤ i → delta_Sums.l0 k out last l l.length i = some (out ++ sums last (l.drop i)) := by
  intro d
  induction d with
  | zero =>
    intro k i out last hd hk ho
    obtain ⟨k, rfl⟩ : ∃ m, k = m + 1 := ⟨k - 1, by omega⟩
    simp only [delta_Sums.l0]
    rw [if_neg (by omega), List.drop_of_length_le (by omega)]; simp [sums]
  | succ d ih =>
    intro k i out last hd hk ho
    obtain ⟨k, rfl⟩ : ∃ m, k = m + 1 := ⟨k - 1, by omega⟩
    simp only [delta_Sums.l0]
    have := ih k (i + 1) (out ++ [wrap64 (last + l[i])]) (wrap64 (last + l[i])) (by omega) (by omega) (by simp; omega)
    simp only [Int.natCast_add, Int.natCast_one] at this
    rw [if_pos (by omega), if_pos (by omega), if_pos (by omega), if_pos (by omega), rd_get (by omega), w64 (n := (i : Int) + 1) (by omega) (by omega), this, dropc l i (by omega), sums, List.append_assoc, List.singleton_append]
theorem sums_f (l : List Int) (hn : l.length ≤ 65536) : Ev (fun k => delta_Sums.f k l) (sums 0 l) := ⟨l.length + 1, fun k hk => by
  show delta_Sums.f k l = _
  unfold delta_Sums.f
  have := sums_l0 l hn l.length k 0 [] 0 (by omega) (by omega) (by simp)
  simpa using this⟩
theorem LT.ne {a b : ByteArray} (h : LT a b) : a ≠ b := fun e => by subst e; exact bl_irrefl _ h
theorem asc_at {L : List ByteArray} (hL : Asc L) {i j : Nat} (hj : j < L.length) (h : i < j) : LT (L[i]'(by omega)) L[j] := List.pairwise_iff_getElem.1 hL i j (by omega) hj h
theorem asc_inj {L : List ByteArray} (hL : Asc L) {i j : Nat} (hi : i < L.length) (hj : j < L.length) (h : L[i] = L[j]) : i = j := by
  rcases Nat.lt_trichotomy i j with c | c | c
  · exact absurd h (LT.ne (asc_at hL hj c))
  · exact c
  · exact absurd h.symm (LT.ne (asc_at hL hi c))
theorem zag_range {v : Nat} (hv : v < 18446744073709551616) : -9223372036854775808 ≤ zag v ∧ zag v ≤ 9223372036854775807 := by
  unfold zag; split <;> omega
theorem pow_split (w n : Nat) : w % 128 * 128 ^ n + w / 128 * 128 ^ (n + 1) = w * 128 ^ n := by
  have e : w / 128 * 128 ^ (n + 1) = 128 * (w / 128) * 128 ^ n := by rw [Nat.pow_succ]; ac_rfl
  rw [e, ← Nat.add_mul, Nat.mod_add_div]
theorem h9_of {w n : Nat} (hb : w * 128 ^ n < 18446744073709551616) : n = 9 → w ≤ 1 := by
  rintro rfl
  simp only [Nat.reducePow] at hb
  omega
theorem sh_leb (rest : List Int) : ∀ (w n v0 : Nat), n ≤ 9 → (0 < n → 0 < w) → w * 128 ^ n < 18446744073709551616 →
    sh (leb w ++ rest) n v0 = (((v0 + w * 128 ^ n : Nat) : Int), ((n + (leb w).length : Nat) : Int), 0) := by
  intro w
  induction w using Nat.strongRecOn with
  | _ w ih =>
  intro n v0 hn h0 hb
  have h9 := h9_of hb
  have e2 := pow_split w n
  have hb' : w / 128 * 128 ^ (n + 1) < 18446744073709551616 := Nat.lt_of_le_of_lt (by rw [← e2]; exact Nat.le_add_left _ _) hb
  clear hb
  by_cases hv : w < 128
  · clear ih hb' e2
    have hE : ¬ (9 < n ∨ (n = 9 ∧ 1 < w % 128) ∨ (0 < n ∧ (w : Int) = 0)) := by
      rintro (h | h | h)
      · omega
      · have := h9 h.1; omega
      · have := h0 h.1; omega
    rw [leb_small hv, List.singleton_append]
    simp only [sh, Int.toNat_natCast]
    rw [if_neg hE, if_pos (by omega), Nat.mod_eq_of_lt hv]
    rfl
  · have hn9 : n ≠ 9 := fun h => by have := h9 h; omega
    have hih := ih (w / 128) (by omega) (n + 1) (v0 + w % 128 * 128 ^ n) (by omega) (fun _ => by omega) hb'
    rw [Nat.add_assoc, e2] at hih
    clear ih hb' e2
    have hE : ¬ (9 < n ∨ (n = 9 ∧ 1 < (w % 128 + 128) % 128) ∨ (0 < n ∧ ((w % 128 + 128 : Nat) : Int) = 0)) := by omega
    have e : (w % 128 + 128) % 128 = w % 128 := by omega
    rw [leb_big hv, List.cons_append]
    simp only [sh, Int.toNat_natCast]
    rw [if_neg hE, if_neg (by omega), e, hih, List.length_cons, show n + 1 + (leb (w / 128)).length = n + ((leb (w / 128)).length + 1) by omega]
theorem zag_zz {x : Int} (h0 : -9223372036854775808 ≤ x) (h1 : x ≤ 9223372036854775807) : zag (zz x).toNat = x := by
  unfold zag zz; split <;> split <;> omega
theorem nums_numN (w : Nat) : ∀ (L : List Int), (∀ x ∈ L, 0 ≤ x) → fitAll L w → nums_ w L.length (numN w L) = L := by
  intro L
  induction L with
  | nil => intro _ _; rfl
  | cons x L ih =>
    intro h0 hf
    have hx := hf x (by simp)
    have hx0 := h0 x (by simp)
    simp only [List.length_cons, nums_, numN]
    have e1 : (x.toNat + 2 ^ w * numN w L) % 2 ^ w = x.toNat := by rw [Nat.add_mul_mod_self_left, Nat.mod_eq_of_lt hx]
    have e2 : (x.toNat + 2 ^ w * numN w L) / 2 ^ w = numN w L := by rw [Nat.add_mul_div_left _ _ (Nat.two_pow_pos w), Nat.div_eq_of_lt hx, Nat.zero_add]
    rw [e1, e2, ih (fun y hy => h0 y (by simp [hy])) (fun y hy => hf y (by simp [hy])), Int.toNat_of_nonneg hx0]
theorem unpack_pack (L : List Int) (w : Nat) (hw : w ≤ 64) (hn : L.length ≤ 300) (hL : ∀ x ∈ L, 0 ≤ x ∧ x < 18446744073709551616) (hf : fitAll L w) :
    (packed L w).2 = 0 ∧ Bytes (packed L w).1 ∧ ((packed L w).1.length : Int) = ((sizeN L.length w : Nat) : Int) ∧ unpacked (packed L w).1 L.length w = (L, 0) := by
  have oa : okSize (L.length : Int) (w : Int) := ⟨by omega, by omega, by omega, by omega⟩
  have hp : packed L w = (digs (sizeN L.length w) (numN w L), 0) := by unfold packed; rw [if_pos oa, Int.toNat_natCast, if_pos hf]
  rw [hp]
  refine ⟨rfl, digs_bytes _ _, by rw [digs_length], ?_⟩
  have hN := numN_lt w L hf
  have hN2 : numN w L < 256 ^ sizeN L.length w := by
    have : w * L.length ≤ 8 * sizeN L.length w := by unfold sizeN; rw [Nat.mul_comm w]; omega
    rw [show (256 : Nat) = 2 ^ 8 by decide, ← Nat.pow_mul]
    exact Nat.lt_of_lt_of_le hN (Nat.pow_le_pow_right (by decide) this)
  unfold unpacked
  simp only [if_pos oa, Int.toNat_natCast, digs_length, Nat.lt_irrefl, if_false, leN_digs _ _ hN2, if_pos hN]
  rw [nums_numN w L (fun x hx => (hL x hx).1) hf]
theorem leb_bytes : ∀ (w : Nat), ∀ x ∈ leb w, 0 ≤ x ∧ x < 256 := by
  intro w
  induction w using Nat.strongRecOn with
  | _ w ih =>
  intro x hx
  by_cases hv : w < 128
  · rw [leb_small hv] at hx; simp at hx; omega
  · rw [leb_big hv] at hx
    rcases List.mem_cons.1 hx with rfl | hx
    · omega
    · exact ih (w / 128) (by omega) x hx
def gt (b : List Int) : Nat → Nat → List Int → List Int × Int
  | 0, a, out => if a < b.length then ([], 3) else (out, 0)
  | c + 1, a, out => if (sh (b.drop a) 0 0).2.2 = 0 then gt b c (a + (sh (b.drop a) 0 0).2.1.toNat) (out ++ [zag (sh (b.drop a) 0 0).1.toNat]) else ([], (sh (b.drop a) 0 0).2.2)
def getv (b : List Int) (n : Int) : List Int × Int := if n < 0 ∨ n > 65536 then ([], 1) else gt b n.toNat 0 []
theorem pget_l0 {b : List Int} (hw : ∀ x ∈ b, 0 ≤ x ∧ x < 256) (hl : b.length < 4611686018427387904) (N : Nat) (hN : N ≤ 65536) : ∀ (c a : Nat) (out : List Int), N = out.length + c → a ≤ b.length →
    Ev (fun k => plain_Get.l0 k out N out.length b a 0 0) (gt b c a out) := by
  intro c
  induction c with
  | zero =>
    intro a out hc ha
    refine Ev.step (f := fun _ => some (gt b 0 a out)) (fun k => ?_) (Ev.now _)
    simp only [plain_Get.l0]
    rw [if_neg (by omega)]
    simp only [num_Reader_End.f]
    rw [w64 (by omega) (by omega)]
    by_cases h : a < b.length
    · rw [if_pos ⟨trivial, by omega⟩, Option.bind_some, if_neg (by simp), gt, if_pos h]
    · rw [if_neg (by omega), Option.bind_some, if_pos rfl, gt, if_neg h]
  | succ c ih =>
    intro a out hc ha
    refine Ev.step (f := fun k => _) (fun k => by simp only [plain_Get.l0]; rw [if_pos (by omega)]) ?_
    rcases sh_cases (b.drop a) 0 0 (drop_bytes hw a) (by omega) (by decide) with h | h | ⟨v, m, h, h1, h2, hv⟩
    · refine Ev.bind (nvar_err hw hl ha (.inl rfl) h) ⟨0, fun k _ => ?_⟩
      rw [gt, h]; simp [num_Reader_Err.f]
    · refine Ev.bind (nvar_err hw hl ha (.inr rfl) h) ⟨0, fun k _ => ?_⟩
      rw [gt, h]; simp [num_Reader_Err.f]
    · rw [List.length_drop] at h2
      refine Ev.bind (nvar_ok hw hl ha h (by omega)) ?_
      rw [gt, h]
      simp only [Int.toNat_natCast, if_true]
      refine Ev.congr (fun k => ?_) (ih (a + m) (out ++ [zag v]) (by simp; omega) (by omega))
      simp only [num_Reader_Err.f, Option.bind_some]
      rw [if_pos trivial, zag_f v hv, Option.bind_some, if_pos (by omega), w64 (by omega) (by omega)]
      congr 1
      simp
theorem pget_f {b : List Int} (hw : ∀ x ∈ b, 0 ≤ x ∧ x < 256) (hl : b.length * 1 ≤ 140737488355328) (n : Int) : Ev (fun k => plain_Get.f k b n) (getv b n) := by
  unfold plain_Get.f getv
  by_cases h0 : n < 0
  · simp only [if_pos h0]
    rw [if_pos (.inl h0)]
    exact Ev.step (f := fun _ => some ([], 1)) (fun k => by simp only [plain_Get.j0]; rw [if_pos trivial]) (Ev.now _)
  · simp only [if_neg h0]
    by_cases h1 : n > 65536
    · rw [if_pos (.inr h1), decide_eq_true h1]
      exact Ev.step (f := fun _ => some ([], 1)) (fun k => by simp only [plain_Get.j0]; rw [if_pos trivial]) (Ev.now _)
    · rw [if_neg (by omega), decide_eq_false h1]
      obtain ⟨N, rfl⟩ := Int.eq_ofNat_of_zero_le (Int.not_lt.mp h0)
      rw [Int.toNat_natCast]
      refine Ev.step (fun k => ?_) (pget_l0 hw (by omega) N (by omega) N 0 [] (by simp) (by omega))
      simp only [plain_Get.j0]
      rw [if_neg (by decide)]
      simp only [num_NewReader.f]
      rw [if_pos hl, Option.bind_some]
      rfl
def lastIs (out : List Int) (v : Int) : Prop := out.getLast? = some v
instance (out : List Int) (v : Int) : Decidable (lastIs out v) := inferInstanceAs (Decidable (_ = _))
/-- one run: how often less one, the number, the place behind; or an error -/
def rone (b : List Int) (a : Nat) : Nat × Nat × Nat × Int :=
  if (sh (b.drop a) 0 0).2.2 ≠ 0 then (0, 0, 0, (sh (b.drop a) 0 0).2.2)
  else if (sh (b.drop (a + (sh (b.drop a) 0 0).2.1.toNat)) 0 0).2.2 ≠ 0 then (0, 0, 0, (sh (b.drop (a + (sh (b.drop a) 0 0).2.1.toNat)) 0 0).2.2)
  else ((sh (b.drop a) 0 0).1.toNat, (sh (b.drop (a + (sh (b.drop a) 0 0).2.1.toNat)) 0 0).1.toNat, a + (sh (b.drop a) 0 0).2.1.toNat + (sh (b.drop (a + (sh (b.drop a) 0 0).2.1.toNat)) 0 0).2.1.toNat, 0)
def rgt (b : List Int) (N : Nat) : Nat → Nat → List Int → List Int × Int
  | 0, _, _ => ([], 0)
  | f + 1, a, out =>
    if out.length < N then
      if (rone b a).2.2.2 ≠ 0 then ([], (rone b a).2.2.2)
      else if N ≤ out.length + (rone b a).1 then ([], 5)
      else if lastIs out (zag (rone b a).2.1) then ([], 4)
      else rgt b N f (rone b a).2.2.1 (out ++ List.replicate ((rone b a).1 + 1) (zag (rone b a).2.1))
    else if a < b.length then ([], 3) else (out, 0)
theorem rd_last {out : List Int} {v : Int} (h : 0 < out.length) (hl : out.length < 9223372036854775807) : (rd out (wrap64 ((out.length : Int) - 1)) = v) ↔ lastIs out v := by
  have e : wrap64 ((out.length : Int) - 1) = ((out.length - 1 : Nat) : Int) := by rw [w64 (by omega) (by omega)]; omega
  rw [e, rd_get (by omega)]
  unfold lastIs
  rw [List.getLast?_eq_getElem?, List.getElem?_eq_getElem (by omega)]
  simp
theorem last_nil {v : Int} : ¬ lastIs [] v := by simp [lastIs]
theorem rone_cases {b : List Int} (hw : ∀ x ∈ b, 0 ≤ x ∧ x < 256) (a : Nat) (ha : a ≤ b.length) :
    (∃ x : Int, (x = 2 ∨ x = 4) ∧ sh (b.drop a) 0 0 = (0, 0, x) ∧ rone b a = (0, 0, 0, x)) ∨
    (∃ (v m : Nat) (x : Int), (x = 2 ∨ x = 4) ∧ sh (b.drop a) 0 0 = ((v : Int), (m : Int), 0) ∧ v < 18446744073709551616 ∧ a + m ≤ b.length ∧ sh (b.drop (a + m)) 0 0 = (0, 0, x) ∧ rone b a = (0, 0, 0, x)) ∨
    (∃ v m v2 m2 : Nat, sh (b.drop a) 0 0 = ((v : Int), (m : Int), 0) ∧ v < 18446744073709551616 ∧ a + m ≤ b.length ∧ sh (b.drop (a + m)) 0 0 = ((v2 : Int), (m2 : Int), 0) ∧ v2 < 18446744073709551616 ∧ a + m + m2 ≤ b.length ∧ a < a + m + m2 ∧ rone b a = (v, v2, a + m + m2, 0)) := by
  rcases sh_cases (b.drop a) 0 0 (drop_bytes hw a) (by omega) (by decide) with h | h | ⟨v, m, h, h1, h2, hv⟩
  · exact .inl ⟨2, .inl rfl, h, by unfold rone; rw [h]; rfl⟩
  · exact .inl ⟨4, .inr rfl, h, by unfold rone; rw [h]; rfl⟩
  · rw [List.length_drop] at h2
    refine .inr ?_
    rcases sh_cases (b.drop (a + m)) 0 0 (drop_bytes hw _) (by omega) (by decide) with g | g | ⟨v2, m2, g, g1, g2, gv⟩
    · exact .inl ⟨v, m, 2, .inl rfl, h, hv, by omega, g, by unfold rone; rw [h]; simp only [Int.toNat_natCast, ne_eq, not_true_eq_false, if_false]; rw [g]; rfl⟩
    · exact .inl ⟨v, m, 4, .inr rfl, h, hv, by omega, g, by unfold rone; rw [h]; simp only [Int.toNat_natCast, ne_eq, not_true_eq_false, if_false]; rw [g]; rfl⟩
    · rw [List.length_drop] at g2
      exact .inr ⟨v, m, v2, m2, h, hv, by omega, g, gv, by omega, by omega, by unfold rone; rw [h]; simp only [Int.toNat_natCast, ne_eq, not_true_eq_false, if_false]; rw [g]; simp⟩
theorem nvar_fail {b : List Int} {a : Nat} {x y : Int} (hx : x ≠ 0) : Ev (fun k => num_Reader_Var.f k b a x y) (0, (a : Int), x, y) :=
  ⟨0, fun k _ => by show num_Reader_Var.f k b a x y = _; unfold num_Reader_Var.f; rw [if_pos hx]⟩
theorem rep_snoc (v : Int) (i : Nat) (out : List Int) : out ++ List.replicate i v ++ [v] = out ++ List.replicate (i + 1) v := by rw [List.append_assoc, List.replicate_succ']
theorem nrun_l1 {b : List Int} (N : Int) (v : Int) (m a : Nat) (out : List Int) {r : List Int × Int} (ho : out.length + m < 17592186044416)
    (h : Ev (fun k => runs_Get.l0 k N (out ++ List.replicate m v) b a 0 0) r) : ∀ (d i : Nat), m = i + d → Ev (fun k => runs_Get.l1 k N (out ++ List.replicate i v) v m i b a 0 0) r := by
  intro d
  induction d with
  | zero =>
    intro i hi
    obtain rfl : m = i := by omega
    refine Ev.step (fun k => ?_) h
    simp only [runs_Get.l1]
    rw [if_neg (by omega)]
  | succ d ih =>
    intro i hi
    refine Ev.step (fun k => ?_) (ih (i + 1) (by omega))
    simp only [runs_Get.l1]
    rw [if_pos (by omega), if_pos (by simp; omega), rep_snoc, u64w_id (by omega) (by omega)]
    rfl
theorem nrget_l0 {b : List Int} (hw : ∀ x ∈ b, 0 ≤ x ∧ x < 256) (hl : b.length < 4611686018427387904) (N : Nat) (hN : N ≤ 65536) : ∀ (f a : Nat) (out : List Int), out.length ≤ N → a ≤ b.length → b.length - a < f →
    Ev (fun k => runs_Get.l0 k N out b a 0 0) (rgt b N f a out) := by
  intro f
  induction f with
  | zero => intro a out _ _ h; omega
  | succ f ih =>
    intro a out ho ha hf
    rw [rgt]
    by_cases hlt : out.length < N
    · rw [if_pos hlt]
      refine Ev.step (f := fun k => _) (fun k => by simp only [runs_Get.l0]; rw [if_pos (by omega)]) ?_
      rcases rone_cases hw a ha with ⟨x, hx, h, hr⟩ | ⟨v, m, x, hx, h, hv, h2, g, hr⟩ | ⟨v, m, v2, m2, h, hv, h2, g, gv, g2, g3, hr⟩
      · have hx0 : x ≠ 0 := by omega
        rw [hr, if_pos hx0]
        refine Ev.bind (nvar_err hw hl ha hx h) ?_
        refine Ev.bind (nvar_fail hx0) ⟨0, fun k _ => ?_⟩
        have hz := zag_f 0 (by decide)
        rw [Int.natCast_zero] at hz
        simp only [num_Reader_Err.f, Option.bind_some]
        rw [hz, Option.bind_some, if_neg hx0]
      · have hx0 : x ≠ 0 := by omega
        rw [hr, if_pos hx0]
        refine Ev.bind (nvar_ok hw hl ha h h2) ?_
        refine Ev.bind (nvar_err hw hl h2 hx g) ⟨0, fun k _ => ?_⟩
        have hz := zag_f 0 (by decide)
        rw [Int.natCast_zero] at hz
        simp only [num_Reader_Err.f, Option.bind_some]
        rw [hz, Option.bind_some, if_neg hx0]
      · rw [hr, if_neg (by simp)]
        refine Ev.bind (nvar_ok hw hl ha h h2) ?_
        refine Ev.bind (nvar_ok hw hl h2 g g2) ?_
        refine Ev.bind (a := zag v2) ⟨0, fun k _ => zag_f v2 gv⟩ ?_
        simp only [num_Reader_Err.f, Option.bind_some, if_true]
        have eu : IntKind.u64.wrap (wrap64 ((N : Int) - out.length)) = ((N - out.length : Nat) : Int) := by rw [w64 (by omega) (by omega), u64w_id (by omega) (by omega)]; omega
        rw [eu]
        by_cases h5 : N ≤ out.length + v
        · simp only [if_pos h5, if_pos (show (v : Int) ≥ ((N - out.length : Nat) : Int) by omega)]
          exact Ev.now _
        · simp only [if_neg h5, if_neg (show ¬ (v : Int) ≥ ((N - out.length : Nat) : Int) by omega)]
          have hgo : ¬ lastIs out (zag v2) → Ev (fun k => runs_Get.j2 k N out v (zag v2) b ((a + m + m2 : Nat) : Int) 0 0) (if lastIs out (zag v2) then ([], 4) else rgt b N f (a + m + m2) (out ++ List.replicate (v + 1) (zag v2))) := by
            intro h4
            rw [if_neg h4]
            refine Ev.step (f := fun k => runs_Get.l1 k N out (zag v2) ((v + 1 : Nat) : Int) 0 b ((a + m + m2 : Nat) : Int) 0 0) (fun k => by simp only [runs_Get.j2]; rw [u64w_id (by omega) (by omega)]; rfl) ?_
            have := nrun_l1 (b := b) (N : Int) (zag v2) (v + 1) (a + m + m2) out (by omega) (ih (a + m + m2) (out ++ List.replicate (v + 1) (zag v2)) (by simp; omega) g2 (by omega)) (v + 1) 0 (by omega)
            rw [List.replicate_zero, List.append_nil] at this
            exact this
          by_cases hp : out.length > 0
          · simp only [if_pos (show (out.length : Int) > 0 by omega)]
            have e1 : (0 : Int) ≤ wrap64 ((out.length : Int) - 1) := by rw [w64 (by omega) (by omega)]; omega
            have e2 : wrap64 ((out.length : Int) - 1) < (out.length : Int) := by rw [w64 (by omega) (by omega)]; omega
            simp only [if_pos e1, if_pos e2]
            by_cases h4 : lastIs out (zag v2)
            · simp only [if_pos h4, if_pos ((rd_last hp (by omega)).2 h4)]
              exact Ev.now _
            · simp only [if_neg (fun h => h4 ((rd_last hp (by omega)).1 h))]
              exact hgo h4
          · simp only [if_neg (show ¬ (out.length : Int) > 0 by omega)]
            have : out = [] := List.eq_nil_of_length_eq_zero (by omega)
            exact hgo (by rw [this]; exact last_nil)
    · rw [if_neg hlt]
      refine Ev.step (f := fun k => _) (fun k => by simp only [runs_Get.l0]; rw [if_neg (by omega)]) ⟨0, fun k _ => ?_⟩
      simp only [num_Reader_End.f]
      rw [w64 (by omega) (by omega)]
      by_cases h : a < b.length
      · rw [if_pos ⟨trivial, by omega⟩, Option.bind_some, if_neg (by simp), if_pos h]
      · rw [if_neg (by omega), Option.bind_some, if_pos rfl, if_neg h]
def rgetv (b : List Int) (n : Int) : List Int × Int := if n < 0 ∨ n > 65536 then ([], 1) else rgt b n.toNat (b.length + 1) 0 []
theorem nrget_f {b : List Int} (hw : ∀ x ∈ b, 0 ≤ x ∧ x < 256) (hl : b.length * 1 ≤ 140737488355328) (n : Int) : Ev (fun k => runs_Get.f k b n) (rgetv b n) := by
  unfold runs_Get.f rgetv
  by_cases h0 : n < 0
  · simp only [if_pos h0]
    rw [if_pos (.inl h0)]
    exact Ev.step (f := fun _ => some ([], 1)) (fun k => by simp only [runs_Get.j0]; rw [if_pos trivial]) (Ev.now _)
  · simp only [if_neg h0]
    by_cases h1 : n > 65536
    · rw [if_pos (.inr h1), decide_eq_true h1]
      exact Ev.step (f := fun _ => some ([], 1)) (fun k => by simp only [runs_Get.j0]; rw [if_pos trivial]) (Ev.now _)
    · rw [if_neg (by omega), decide_eq_false h1]
      obtain ⟨N, rfl⟩ := Int.eq_ofNat_of_zero_le (Int.not_lt.mp h0)
      rw [Int.toNat_natCast]
      refine Ev.step (fun k => ?_) (nrget_l0 hw (by omega) N (by omega) (b.length + 1) 0 [] (by simp) (by omega) (by omega))
      simp only [runs_Get.j0]
      rw [if_neg (by decide)]
      simp only [num_NewReader.f]
      rw [if_pos hl, Option.bind_some]
      rfl
def expand (rs : List (Int × Nat)) : List Int := rs.flatMap fun x => List.replicate x.2 x.1
def okr : Option Int → List (Int × Nat) → Prop
  | _, [] => True
  | p, (x, k) :: r => p ≠ some x ∧ 1 ≤ k ∧ (-9223372036854775808 ≤ x ∧ x ≤ 9223372036854775807) ∧ okr (some x) r
theorem expand_cons (x : Int) (k : Nat) (r : List (Int × Nat)) : expand ((x, k) :: r) = List.replicate k x ++ expand r := by simp [expand]
theorem runForm_cons (x : Int) (k : Nat) (r : List (Int × Nat)) : runForm ((x, k) :: r) = leb (k - 1) ++ (leb (zz x).toNat ++ runForm r) := by simp [runForm]
theorem runsOf_okr : ∀ l : List Int, (∀ x ∈ l, -9223372036854775808 ≤ x ∧ x ≤ 9223372036854775807) → okr none (runsOf l) ∧ expand (runsOf l) = l := by
  intro l
  induction l with
  | nil => intro _; exact ⟨trivial, rfl⟩
  | cons x l ih =>
    intro hw
    have hx := hw x (by simp)
    obtain ⟨h1, h2⟩ := ih (fun y hy => hw y (by simp [hy]))
    rw [runsOf]
    split
    · rename_i he
      rw [he] at h2
      rw [← h2]
      exact ⟨⟨by simp, by omega, hx, trivial⟩, by simp [expand]⟩
    · rename_i y k r he
      rw [he] at h1 h2
      obtain ⟨_, hk, hy, hr⟩ := h1
      by_cases e : x = y
      · subst e
        rw [if_pos rfl]
        refine ⟨⟨by simp, by omega, hx, hr⟩, ?_⟩
        rw [← h2, expand_cons, expand_cons, List.replicate_succ, List.cons_append]
      · rw [if_neg e]
        refine ⟨⟨by simp, by omega, hx, fun h => e (Option.some.inj h), hk, hy, hr⟩, ?_⟩
        rw [expand_cons, ← h2]; rfl
theorem rone_put {x : Int} (hx : -9223372036854775808 ≤ x ∧ x ≤ 9223372036854775807) {k : Nat} (hk : k ≤ 65536) (pre rest : List Int) :
    rone (pre ++ (leb (k - 1) ++ (leb (zz x).toNat ++ rest))) pre.length = (k - 1, (zz x).toNat, pre.length + (leb (k - 1)).length + (leb (zz x).toNat).length, 0) := by
  have hz := zz_range hx.1 hx.2
  have s1 := sh_leb (leb (zz x).toNat ++ rest) (k - 1) 0 0 (by omega) (fun h => by omega) (by rw [Nat.pow_zero]; omega)
  have s2 := sh_leb rest (zz x).toNat 0 0 (by omega) (fun h => by omega) (by rw [Nat.pow_zero]; omega)
  rw [Nat.pow_zero, Nat.mul_one, Nat.zero_add, Nat.zero_add] at s1 s2
  have d2 : (pre ++ (leb (k - 1) ++ (leb (zz x).toNat ++ rest))).drop (pre.length + (leb (k - 1)).length) = leb (zz x).toNat ++ rest := by
    rw [← List.append_assoc, show pre.length + (leb (k - 1)).length = (pre ++ leb (k - 1)).length by rw [List.length_append], List.drop_left]
  unfold rone
  rw [List.drop_left, s1]
  simp only [Int.toNat_natCast, ne_eq, not_true_eq_false, if_false]
  rw [d2, s2]
  simp only [Int.toNat_natCast, not_true_eq_false, if_false]
theorem rgt_runs : ∀ (rs : List (Int × Nat)) (pre out : List Int) (f N : Nat), okr out.getLast? rs → N = out.length + (expand rs).length → N ≤ 65536 → (runForm rs).length < f →
    rgt (pre ++ runForm rs) N f pre.length out = (out ++ expand rs, 0) := by
  intro rs
  induction rs with
  | nil =>
    intro pre out f N _ hN _ hf
    obtain ⟨f, rfl⟩ : ∃ m, f = m + 1 := ⟨f - 1, by omega⟩
    have e : runForm [] = [] := rfl
    have e2 : expand [] = [] := rfl
    rw [e2, List.length_nil] at hN
    rw [rgt, if_neg (by omega), e, List.append_nil, if_neg (by omega), e2, List.append_nil]
  | cons y r ih =>
    obtain ⟨x, k⟩ := y
    intro pre out f N h hN hN2 hf
    obtain ⟨h1, hk, hx, hr⟩ := h
    rw [expand_cons, List.length_append, List.length_replicate] at hN
    rw [runForm_cons, List.length_append, List.length_append] at hf
    have hp1 : 0 < (leb (k - 1)).length := by rw [leb]; split <;> simp
    obtain ⟨f, rfl⟩ : ∃ m, f = m + 1 := ⟨f - 1, by omega⟩
    have hl : ¬ lastIs out x := h1
    have := ih (pre ++ (leb (k - 1) ++ leb (zz x).toNat)) (out ++ List.replicate k x) f N (by rw [List.getLast?_append, List.getLast?_replicate, if_neg (by omega)]; exact hr) (by rw [List.length_append, List.length_replicate]; omega) hN2 (by omega)
    rw [rgt, if_pos (by omega), runForm_cons, rone_put hx (by omega)]
    simp only [ne_eq, not_true_eq_false, if_false]
    rw [if_neg (by omega), zag_zz hx.1 hx.2, if_neg hl, show k - 1 + 1 = k by omega]
    rw [List.length_append, List.length_append, List.append_assoc, List.append_assoc, ← Nat.add_assoc] at this
    rw [this, expand_cons, List.append_assoc]
theorem plain_step {x : Int} (hx : -9223372036854775808 ≤ x ∧ x ≤ 9223372036854775807) (rest : List Int) : sh (leb (zz x).toNat ++ rest) 0 0 = (((zz x).toNat : Int), ((leb (zz x).toNat).length : Int), 0) := by
  have hz := zz_range hx.1 hx.2
  have := sh_leb rest (zz x).toNat 0 0 (by omega) (fun h => by omega) (by rw [Nat.pow_zero]; omega)
  rw [this]
  simp
theorem gt_plain : ∀ (l pre rest out : List Int), (∀ x ∈ l, -9223372036854775808 ≤ x ∧ x ≤ 9223372036854775807) →
    gt (pre ++ (plainOf l ++ rest)) l.length pre.length out = if 0 < rest.length then ([], 3) else (out ++ l, 0) := by
  intro l
  induction l with
  | nil =>
    intro pre rest out _
    simp only [List.length_nil, gt, plainOf, List.flatMap_nil, List.nil_append, List.length_append, List.append_nil]
    by_cases h : 0 < rest.length
    · rw [if_pos h, if_pos (by omega)]
    · rw [if_neg h, if_neg (by omega)]
  | cons x l ih =>
    intro pre rest out hw
    have hx := hw x (by simp)
    rw [List.length_cons, gt, List.drop_left, plainOf_cons, List.append_assoc, plain_step hx]
    simp only [if_true, Int.toNat_natCast]
    rw [zag_zz hx.1 hx.2]
    have := ih (pre ++ leb (zz x).toNat) rest (out ++ [x]) (fun y hy => hw y (by simp [hy]))
    rw [List.length_append, List.append_assoc, List.append_assoc] at this
    rw [this]
    simp
def zags (l : List Int) : List Int := l.map (fun x => zag x.toNat)
def restv (b : List Int) (a : Nat) (n : Int) : List Int × Int :=
  if h : a < b.length then
    (if b[a] > 64 then ([], 5)
    else if (unpacked (b.drop (a + 1)) n b[a]).2 = 0 then (if (maxW (unpacked (b.drop (a + 1)) n b[a]).1 : Int) = b[a] then (zags (unpacked (b.drop (a + 1)) n b[a]).1, 0) else ([], 4))
    else ([], (unpacked (b.drop (a + 1)) n b[a]).2))
  else ([], 2)
def deltav (b : List Int) (n : Int) : List Int × Int :=
  if n < 0 ∨ n > 65536 then ([], 1)
  else if n = 0 then (if 0 < b.length then ([], 3) else ([], 0))
  else if (sh b 0 0).2.2 = 0 then
    (if n = 1 then (if (sh b 0 0).2.1.toNat < b.length then ([], 3) else (sums 0 [zag (sh b 0 0).1.toNat], 0))
    else if (restv b (sh b 0 0).2.1.toNat (n - 1)).2 = 0 then (sums 0 (zag (sh b 0 0).1.toNat :: (restv b (sh b 0 0).2.1.toNat (n - 1)).1), 0)
    else ([], (restv b (sh b 0 0).2.1.toNat (n - 1)).2))
  else ([], (sh b 0 0).2.2)
theorem rest_l0 (d : List Int) (hn : d.length ≤ 65536) (hd : ∀ x ∈ d, 0 ≤ x ∧ x < 18446744073709551616) (b : List Int) (x y z : Int) : ∀ (c i : Nat), d.length = i + c → Ev (fun k => delta_rest.l0 k (zags (d.take i)) d d.length i b x y z) (zags d, 0, x, y, z) := by
  intro c
  induction c with
  | zero =>
    intro i hi
    rw [List.take_of_length_le (by omega)]
    exact Ev.step (f := fun _ => some (zags d, 0, x, y, z)) (fun k => by simp only [delta_rest.l0]; rw [if_neg (by omega)]) (Ev.now _)
  | succ c ih =>
    intro i hi
    have hlt : i < d.length := by omega
    have hx := hd _ (List.getElem_mem hlt)
    have hz : num_Zag.f d[i] = some (zag d[i].toNat) := by have := zag_f d[i].toNat (by omega); rwa [Int.toNat_of_nonneg hx.1] at this
    refine Ev.step (fun k => ?_) (ih (i + 1) (by omega))
    simp only [delta_rest.l0]
    rw [if_pos (by omega), if_pos (by omega), if_pos (by omega), rd_get hlt, hz, Option.bind_some, if_pos (by simp [zags]; omega), w64 (n := (i : Int) + 1) (by omega) (by omega), List.take_succ_eq_append_getElem hlt, zags, zags, List.map_append]
    rfl
theorem rest_f {b : List Int} (hw : ∀ x ∈ b, 0 ≤ x ∧ x < 256) (hl : b.length ≤ 140737488355328) {a : Nat} (ha : a ≤ b.length) (on n : Int) (h1 : 1 ≤ n) (h2 : n ≤ 65536) :
    ∃ A E O, Ev (fun k => delta_rest.f k b a 0 on n) ((restv b a n).1, (restv b a n).2, A, E, O) ∧ ((restv b a n).2 = 0 → A = (b.length : Int) ∧ E = 0 ∧ O = on) := by
  unfold restv
  by_cases hm : a < b.length
  · have hc := hw _ (List.getElem_mem hm)
    have hwc : wrap64 b[a] = b[a] := w64 (by omega) (by omega)
    rw [dif_pos hm]
    by_cases h64 : b[a] > 64
    · rw [if_pos h64]
      refine ⟨((a + 1 : Nat) : Int), 0, on, ?_, fun h => by simp at h⟩
      unfold delta_rest.f
      refine Ev.bind (nfix1_ok hw hl hm on) ?_
      simp only [num_Reader_Err.f, Option.bind_some, if_true, hwc, if_pos h64]
      exact Ev.now _
    · rw [if_neg h64]
      have hev : ∀ r, Ev (fun k => (bits_Unpack.f k (b.drop (a + 1)) n b[a]).bind fun bt252 => (if bt252.2 = 0 then ((bits_Width.f k bt252.1).bind fun t256 => (if t256 = b[a] then (delta_rest.l0 k ([] : List Int) bt252.1 (bt252.1.length : Int) 0 b (b.length : Int) 0 on) else (some (([] : List Int), 4, (b.length : Int), 0, on)))) else (some (([] : List Int), bt252.2, (b.length : Int), 0, on)))) r → Ev (fun k => delta_rest.f k b a 0 on n) r := by
        intro r hr
        unfold delta_rest.f
        refine Ev.bind (nfix1_ok hw hl hm on) ?_
        simp only [num_Reader_Err.f, num_Reader_Left.f, Option.bind_some, if_true, hwc, if_neg h64, nleft hl (show a + 1 ≤ b.length by omega), ntake_all hl (show a + 1 ≤ b.length by omega)]
        exact hr
      have hu := unpack_f (b.drop (a + 1)) (drop_bytes hw _) n b[a]
      by_cases h0 : (unpacked (b.drop (a + 1)) n b[a]).2 = 0
      · obtain ⟨u1, u2, u3, u4⟩ := unpacked_ok h0
        rw [if_pos h0]
        by_cases hW : (maxW (unpacked (b.drop (a + 1)) n b[a]).1 : Int) = b[a]
        · rw [if_pos hW]
          refine ⟨(b.length : Int), 0, on, hev _ (Ev.bind hu ?_), fun _ => ⟨rfl, rfl, rfl⟩⟩
          simp only [if_pos h0]
          refine Ev.bind (width_evd _ (by omega) u2) ?_
          simp only [if_pos hW]
          exact rest_l0 _ (by omega) u2 b _ _ _ _ 0 (Nat.zero_add _).symm
        · rw [if_neg hW]
          refine ⟨(b.length : Int), 0, on, hev _ (Ev.bind hu ?_), fun h => by simp at h⟩
          simp only [if_pos h0]
          refine Ev.bind (width_evd _ (by omega) u2) ?_
          simp only [if_neg hW]
          exact Ev.now _
      · rw [if_neg h0]
        refine ⟨(b.length : Int), 0, on, hev _ (Ev.bind hu ?_), fun h => absurd h h0⟩
        simp only [if_neg h0]
        exact Ev.now _
  · obtain rfl : a = b.length := by omega
    rw [dif_neg hm]
    refine ⟨(b.length : Int), 2, (b.length : Int), ?_, fun h => by simp at h⟩
    unfold delta_rest.f
    refine Ev.bind (nfix1_none (ntake_end hl on)) ?_
    simp only [num_Reader_Err.f, Option.bind_some]
    exact Ev.now _
theorem restv_len {b : List Int} {a : Nat} {n : Int} (h1 : 0 ≤ n) : ((restv b a n).1.length : Int) ≤ n := by
  unfold restv
  by_cases hm : a < b.length
  · rw [dif_pos hm]
    split
    · simpa using h1
    · split
      · rename_i h0
        obtain ⟨u1, _⟩ := unpacked_ok h0
        split
        · simp only [zags, List.length_map]; omega
        · simpa using h1
      · simpa using h1
  · rw [dif_neg hm]; simpa using h1
theorem delta_j2 {b : List Int} (hl : b.length ≤ 140737488355328) {a : Nat} (ha : a ≤ b.length) (on : Int) (l : List Int) (hn : l.length ≤ 65536) : Ev (fun k => delta_Get.j2 k l b a 0 on) (if a < b.length then ([], 3) else (sums 0 l, 0)) := by
  by_cases h : a < b.length
  · rw [if_pos h]
    refine Ev.step (f := fun _ => some ([], 3)) (fun k => ?_) (Ev.now _)
    simp only [delta_Get.j2, num_Reader_End.f, nleft hl ha]
    rw [if_pos ⟨trivial, by omega⟩, Option.bind_some, if_neg (by simp)]
  · rw [if_neg h]
    refine Ev.step (f := fun k => _) (fun k => by
      simp only [delta_Get.j2, num_Reader_End.f, nleft hl ha]
      rw [if_neg (by omega), Option.bind_some, if_pos rfl]) ?_
    exact Ev.bind (sums_f l hn) (Ev.now _)
theorem deltaget_f {b : List Int} (hw : ∀ x ∈ b, 0 ≤ x ∧ x < 256) (hl3 : b.length ≤ 1000000) (n : Int) : Ev (fun k => delta_Get.f k b n) (deltav b n) := by
  have hl2 : b.length < 4611686018427387904 := by omega
  have hl4 : b.length ≤ 140737488355328 := by omega
  have hnr : num_NewReader.f b = some (b, 0, 0, 0) := by unfold num_NewReader.f; rw [if_pos (by omega)]
  unfold deltav
  by_cases h0 : n < 0
  · rw [if_pos (.inl h0)]
    unfold delta_Get.f; simp only [if_pos h0]
    exact Ev.step (f := fun _ => some ([], 1)) (fun k => by simp only [delta_Get.j0]; rw [if_pos trivial]) (Ev.now _)
  by_cases h1 : n > 65536
  · rw [if_pos (.inr h1)]
    unfold delta_Get.f; simp only [if_neg h0, decide_eq_true h1]
    exact Ev.step (f := fun _ => some ([], 1)) (fun k => by simp only [delta_Get.j0]; rw [if_pos trivial]) (Ev.now _)
  rw [if_neg (by rintro (h | h); exact h0 h; exact h1 h)]
  unfold delta_Get.f
  simp only [if_neg h0, decide_eq_false h1]
  have one : ∀ (l : List Int) (x e on : Int) r, Ev (fun k => if e = 0 then (if n > 1 then ((delta_rest.f k b x e on (wrap64 (n - 1))).bind fun bt280 => (if bt280.2.1 = 0 then (if l.length + bt280.1.length < 17592186044416 then (delta_Get.j2 k (l ++ bt280.1) b bt280.2.2.1 bt280.2.2.2.1 bt280.2.2.2.2) else (none)) else (some (([] : List Int), bt280.2.1)))) else (delta_Get.j2 k l b x e on)) else (some (([] : List Int), e))) r → Ev (fun k => delta_Get.j1 k n l b x e on) r := by
    intro l x e on r hr
    refine Ev.step (fun k => ?_) hr
    simp only [delta_Get.j1, num_Reader_Err.f, Option.bind_some]
  by_cases hn0 : n = 0
  · subst hn0
    rw [if_pos rfl]
    refine Ev.step (f := fun k => delta_Get.j1 k 0 [] b 0 0 0) (fun k => by simp only [delta_Get.j0]; rw [if_neg (by decide), hnr, Option.bind_some, if_neg (by decide)]) ?_
    refine one _ _ _ _ _ ?_
    simp only [if_true, if_neg (show ¬ (0 : Int) > 1 by decide)]
    exact delta_j2 hl4 (Nat.zero_le _) 0 [] (Nat.zero_le _)
  rw [if_neg hn0]
  refine Ev.step (f := fun k => (num_Reader_Var.f k b 0 0 0).bind fun bt267 => ((num_Zag.f bt267.1).bind fun t271 => delta_Get.j1 k n [t271] b bt267.2.1 bt267.2.2.1 bt267.2.2.2)) (fun k => by
    simp only [delta_Get.j0]
    rw [if_neg (by decide), hnr, Option.bind_some, if_pos (by omega)]
    simp only [if_pos (show ([] : List Int).length < 17592186044416 by decide), List.nil_append]) ?_
  have z1 := zag_f 0 (by decide)
  rw [Int.natCast_zero] at z1
  have herr : ∀ x : Int, x = 2 ∨ x = 4 → sh (b.drop 0) 0 0 = (0, 0, x) → Ev (fun k => (num_Reader_Var.f k b 0 0 0).bind fun bt267 => ((num_Zag.f bt267.1).bind fun t271 => delta_Get.j1 k n [t271] b bt267.2.1 bt267.2.2.1 bt267.2.2.2)) ([], x) := by
    intro x hx hs
    have hx0 : x ≠ 0 := by omega
    refine Ev.bind (nvar_err hw hl2 (Nat.zero_le _) hx hs) ?_
    refine Ev.bind (a := zag 0) ⟨0, fun k _ => z1⟩ ?_
    refine one _ _ _ _ _ ?_
    simp only [if_neg hx0]
    exact Ev.now _
  rcases sh_cases (b.drop 0) 0 0 (drop_bytes hw 0) (by omega) (by decide) with h | h | ⟨v, m, h, g1, g2, hv⟩
  · have e := herr 2 (.inl rfl) h
    rw [List.drop_zero] at h
    rw [h, if_neg (by decide)]
    exact e
  · have e := herr 4 (.inr rfl) h
    rw [List.drop_zero] at h
    rw [h, if_neg (by decide)]
    exact e
  · have ok1 := nvar_ok (on := 0) hw hl2 (Nat.zero_le _) h (by rw [List.drop_zero] at g2; omega)
    rw [List.drop_zero, Nat.zero_add] at g2
    rw [List.drop_zero] at h
    rw [Nat.zero_add] at ok1
    refine Ev.bind ok1 ?_
    refine Ev.bind (a := zag v) ⟨0, fun k _ => zag_f v hv⟩ ?_
    rw [h]
    simp only [Int.toNat_natCast, if_true]
    refine one _ _ _ _ _ ?_
    simp only [if_true]
    by_cases hn1 : n = 1
    · subst hn1
      rw [if_pos rfl]
      simp only [if_neg (show ¬ (1 : Int) > 1 by decide)]
      exact delta_j2 hl4 g2 0 _ (by simp)
    · rw [if_neg hn1]
      have hgt : n > 1 := by omega
      simp only [if_pos hgt]
      rw [w64 (n := n - 1) (by omega) (by omega)]
      obtain ⟨A, E, O, r1, r2⟩ := rest_f hw hl4 g2 0 (n - 1) (by omega) (by omega)
      refine Ev.bind r1 ?_
      by_cases hr : (restv b m (n - 1)).2 = 0
      · obtain ⟨rfl, rfl, rfl⟩ := r2 hr
        have hlen := restv_len (b := b) (a := m) (n := n - 1) (by omega)
        simp only [if_pos hr]
        have hlt : ([zag v] : List Int).length + (restv b m (n - 1)).1.length < 17592186044416 := by simp only [List.length_singleton]; omega
        simp only [if_pos hlt]
        have := delta_j2 hl4 (Nat.le_refl b.length) 0 (zag v :: (restv b m (n - 1)).1)
        have := this (by simp only [List.length_cons]; omega)
        rw [if_neg (Nat.lt_irrefl _)] at this
        exact this
      · simp only [if_neg hr]
        exact Ev.now _
def bad (least d : Int) : Prop := least + d > 9223372036854775807
instance (a b : Int) : Decidable (bad a b) := inferInstanceAs (Decidable (_ > _))
def plus (least d : Int) : Int := wrap64 (IntKind.u64.wrap (IntKind.u64.wrap least + d))
def foreEnd (least w : Int) (d : List Int) : List Int × Int := if (∃ x ∈ d, bad least x) ∨ ¬ (maxW d : Int) = w ∨ ¬ (0 ∈ d) then ([], 4) else (d.map (plus least), 0)
theorem minu_l0 (l : List Int) (hn : l.length < 9223372036854775807) : ∀ (d k i : Nat) (m : Int), l.length = i + d → d < k → slices_Min_uint64_uint64.l0 k l m i = some ((l.drop i).foldl mn m) := by
  intro d
  induction d with
  | zero =>
    intro k i m hd hk
    obtain ⟨k, rfl⟩ : ∃ m, k = m + 1 := ⟨k - 1, by omega⟩
    simp only [slices_Min_uint64_uint64.l0]
    rw [if_neg (by omega), List.drop_of_length_le (by omega)]; rfl
  | succ d ih =>
    intro k i m hd hk
    obtain ⟨k, rfl⟩ : ∃ m, k = m + 1 := ⟨k - 1, by omega⟩
    simp only [slices_Min_uint64_uint64.l0]
    have := ih k (i + 1) (mn m l[i]) (by omega) (by omega)
    simp only [Int.natCast_add, Int.natCast_one] at this
    rw [if_pos (by omega), if_pos (by omega), rd_get (by omega), w64 (by omega) (by omega), this, dropc l i (by omega), List.foldl_cons]
theorem minu_f (l : List Int) (h : l ≠ []) (hn : l.length < 9223372036854775807) : Ev (fun k => slices_Min_uint64_uint64.f k l) (minOf l) := ⟨l.length + 1, fun k hk => by
  show slices_Min_uint64_uint64.f k l = _
  cases l with
  | nil => exact absurd rfl h
  | cons x l =>
    unfold slices_Min_uint64_uint64.f
    have hlen : (x :: l).length = l.length + 1 := rfl
    rw [if_neg (by omega), if_pos (by omega)]
    have := minu_l0 (x :: l) hn l.length k 1 x (by omega) (by omega)
    exact this⟩
def maxOf : List Int → Int
  | [] => 0
  | x :: l => l.foldl mx x
theorem mx_le (x y : Int) : x ≤ mx x y ∧ y ≤ mx x y ∧ (mx x y = x ∨ mx x y = y) := by unfold mx; split <;> omega
theorem foldmx : ∀ (l : List Int) (x : Int), (l.foldl mx x = x ∨ l.foldl mx x ∈ l) ∧ x ≤ l.foldl mx x ∧ ∀ y ∈ l, y ≤ l.foldl mx x := by
  intro l
  induction l with
  | nil => intro x; exact ⟨.inl rfl, Int.le_refl _, fun y hy => by cases hy⟩
  | cons z l ih =>
    intro x
    rw [List.foldl_cons]
    obtain ⟨h1, h2, h3⟩ := ih (mx x z)
    have hm := mx_le x z
    refine ⟨?_, by omega, ?_⟩
    · rcases h1 with h | h
      · rcases hm.2.2 with e | e
        · exact .inl (by rw [h, e])
        · exact .inr (by rw [h, e]; simp)
      · exact .inr (List.mem_cons_of_mem _ h)
    · intro y hy
      rcases List.mem_cons.1 hy with rfl | hy
      · omega
      · exact h3 y hy
theorem maxu_l0 (l : List Int) (hn : l.length < 9223372036854775807) : ∀ (d k i : Nat) (m : Int), l.length = i + d → d < k → slices_Max_uint64_uint64.l0 k l m i = some ((l.drop i).foldl mx m) := by
  intro d
  induction d with
  | zero =>
    intro k i m hd hk
    obtain ⟨k, rfl⟩ : ∃ m, k = m + 1 := ⟨k - 1, by omega⟩
    simp only [slices_Max_uint64_uint64.l0]
    rw [if_neg (by omega), List.drop_of_length_le (by omega)]; rfl
  | succ d ih =>
    intro k i m hd hk
    obtain ⟨k, rfl⟩ : ∃ m, k = m + 1 := ⟨k - 1, by omega⟩
    simp only [slices_Max_uint64_uint64.l0]
    have := ih k (i + 1) (mx m l[i]) (by omega) (by omega)
    simp only [Int.natCast_add, Int.natCast_one] at this
    rw [if_pos (by omega), if_pos (by omega), rd_get (by omega), w64 (by omega) (by omega), this, dropc l i (by omega), List.foldl_cons]
theorem maxu_f (l : List Int) (h : l ≠ []) (hn : l.length < 9223372036854775807) : Ev (fun k => slices_Max_uint64_uint64.f k l) (maxOf l) := ⟨l.length + 1, fun k hk => by
  show slices_Max_uint64_uint64.f k l = _
  cases l with
  | nil => exact absurd rfl h
  | cons x l =>
    unfold slices_Max_uint64_uint64.f
    have hlen : (x :: l).length = l.length + 1 := rfl
    rw [if_neg (by omega), if_pos (by omega)]
    have := maxu_l0 (x :: l) hn l.length k 1 x (by omega) (by omega)
    exact this⟩
theorem maxOf_bad {l : List Int} (h : l ≠ []) (least : Int) : maxOf l > 9223372036854775807 - least ↔ ∃ x ∈ l, bad least x := by
  cases l with
  | nil => exact absurd rfl h
  | cons x l =>
    obtain ⟨h1, h2, h3⟩ := foldmx l x
    unfold bad
    show l.foldl mx x > _ ↔ _
    constructor
    · intro hg
      rcases h1 with e | e
      · exact ⟨x, by simp, by omega⟩
      · exact ⟨_, List.mem_cons_of_mem _ e, by omega⟩
    · rintro ⟨y, hy, hb⟩
      rcases List.mem_cons.1 hy with rfl | hy
      · omega
      · have := h3 y hy; omega
theorem minOf_zero {l : List Int} (h : l ≠ []) (hl : ∀ x ∈ l, 0 ≤ x ∧ x < 18446744073709551616) : minOf l = 0 ↔ 0 ∈ l := by
  constructor
  · intro e; rw [← e]; exact minOf_mem h
  · intro e
    have h1 := minOf_le e
    have h2 := (hl _ (minOf_mem h)).1
    omega
theorem plus_ok {least d : Int} (h1 : -9223372036854775808 ≤ least ∧ least ≤ 9223372036854775807) (hd : 0 ≤ d ∧ d < 18446744073709551616) : (bad least d → plus least d < least) ∧ (¬ bad least d → plus least d = least + d) := by
  unfold bad plus
  rw [u64w, u64w]
  constructor
  · intro h; unfold wrap64; omega
  · intro h; unfold wrap64; omega
theorem fget_l0 (least : Int) (d : List Int) (hn : d.length ≤ 65536) : ∀ (c i : Nat), d.length = i + c → Ev (fun k => fore_Get.l0 k least ((d.take i).map (plus least)) d d.length i) (d.map (plus least), 0) := by
  intro c
  induction c with
  | zero =>
    intro i hi
    rw [List.take_of_length_le (by omega)]
    exact Ev.step (f := fun _ => some (d.map (plus least), 0)) (fun k => by simp only [fore_Get.l0]; rw [if_neg (by omega)]) (Ev.now _)
  | succ c ih =>
    intro i hi
    refine Ev.step (fun k => ?_) (ih (i + 1) (by omega))
    simp only [fore_Get.l0]
    rw [if_pos (by omega), if_pos (by omega), if_pos (by omega), if_pos (by simp; omega), rd_get (by omega), w64 (n := (i : Int) + 1) (by omega) (by omega), List.take_succ_eq_append_getElem (by omega), List.map_append]
    rfl
theorem fj2_err {b : List Int} {a x y : Int} (hx : x ≠ 0) (n least w : Int) : Ev (fun k => fore_Get.j2 k n least w b a x y) ([], x) :=
  Ev.step (f := fun _ => some ([], x)) (fun k => by simp only [fore_Get.j2, num_Reader_Err.f, Option.bind_some]; rw [if_neg hx]) (Ev.now _)
theorem fj3 (least : Int) (d : List Int) (hn : d.length ≤ 65536) (F : Bool) : Ev (fun k => fore_Get.j3 k least d F) (if F = true then ([], 4) else (d.map (plus least), 0)) := by
  cases F
  · refine Ev.step (f := fun k => fore_Get.l0 k least [] d d.length 0) (fun k => by simp only [fore_Get.j3]; rw [if_neg (by decide)]) ?_
    exact fget_l0 least d hn d.length 0 (by omega)
  · exact Ev.step (f := fun _ => some ([], 4)) (fun k => by simp only [fore_Get.j3]; rw [if_pos trivial]) (Ev.now _)
theorem fj2_ok {b : List Int} (hw : ∀ x ∈ b, 0 ≤ x ∧ x < 256) (hl : b.length ≤ 140737488355328) {a : Nat} (ha : a ≤ b.length) (on n least w : Int) (h1 : 1 ≤ n) (h2 : n ≤ 65536) (hls : -9223372036854775808 ≤ least ∧ least ≤ 9223372036854775807) :
    Ev (fun k => fore_Get.j2 k n least w b a 0 on) (if (unpacked (b.drop a) n w).2 = 0 then foreEnd least w (unpacked (b.drop a) n w).1 else ([], (unpacked (b.drop a) n w).2)) := by
  have eL : wrap64 ((b.length : Int) - a) = ((b.length - a : Nat) : Int) := by rw [w64 (by omega) (by omega)]; omega
  have eT : num_Reader_Take.f b (a : Int) 0 on ((b.length - a : Nat) : Int) = some (b.drop a, (a : Int) + ((b.length - a : Nat) : Int), 0, on) := by
    unfold num_Reader_Take.f
    rw [if_pos ⟨by omega, by omega, by omega⟩, if_neg (by simp), if_neg (by omega), if_neg (by omega), Int.toNat_natCast, Int.toNat_natCast, List.take_of_length_le (by rw [List.length_drop]; exact Nat.le_refl _)]
  refine Ev.step (f := fun k => _) (fun k => by
    simp only [fore_Get.j2, num_Reader_Err.f, num_Reader_Left.f, Option.bind_some]
    rw [if_pos trivial, eL, eT, Option.bind_some]) ?_
  refine Ev.bind (unpack_f (b.drop a) (drop_bytes hw a) n w) ?_
  by_cases h0 : (unpacked (b.drop a) n w).2 = 0
  · obtain ⟨u1, u2, u3, u4⟩ := unpacked_ok h0
    simp only [if_pos h0]
    generalize (unpacked (b.drop a) n w).1 = d at u1 u2
    have hd0 : d ≠ [] := by rintro rfl; simp at u1; omega
    refine Ev.bind (width_evd d (by omega) u2) ?_
    have hmin := minu_f d hd0 (by omega)
    have hmax := maxu_f d hd0 (by omega)
    have emost : IntKind.u64.wrap (9223372036854775807 - IntKind.u64.wrap least) = 9223372036854775807 - least := by rw [u64w, u64w]; omega
    unfold foreEnd
    by_cases hW : (maxW d : Int) = w
    · simp only [if_pos hW]
      refine Ev.bind hmin ?_
      by_cases hz : minOf d = 0
      · simp only [if_pos hz]
        refine Ev.bind hmax ?_
        rw [emost]
        have hz2 := (minOf_zero hd0 u2).1 hz
        have := fj3 least d (by omega) (decide (maxOf d > 9223372036854775807 - least))
        by_cases hb : maxOf d > 9223372036854775807 - least
        · rw [decide_eq_true hb] at this ⊢
          rw [if_pos (.inl ((maxOf_bad hd0 least).1 hb))]
          exact this
        · rw [decide_eq_false hb] at this ⊢
          rw [if_neg (by rintro (h | h | h); exact hb ((maxOf_bad hd0 least).2 h); exact h hW; exact h hz2)]
          exact this
      · simp only [if_neg hz]
        rw [if_pos (.inr (.inr (fun h => hz ((minOf_zero hd0 u2).2 h))))]
        exact fj3 least d (by omega) true
    · simp only [if_neg hW]
      rw [if_pos (.inr (.inl hW))]
      exact fj3 least d (by omega) true
  · simp only [if_neg h0]
    exact Ev.now _
theorem plain_bytes (l : List Int) : ∀ x ∈ plainOf l, 0 ≤ x ∧ x < 256 := by
  intro x hx
  obtain ⟨y, _, hy⟩ := List.mem_flatMap.1 hx
  exact leb_bytes _ x hy
theorem get_all (l : List Int) (hl : l.length ≤ 300) (hw : ∀ x ∈ l, -9223372036854775808 ≤ x ∧ x ≤ 9223372036854775807) (rest : List Int) : getv (plainOf l ++ rest) l.length = if 0 < rest.length then ([], 3) else (l, 0) := by
  have := gt_plain l [] rest [] hw
  unfold getv
  rw [if_neg (by omega), Int.toNat_natCast]
  simpa using this
theorem run_bytes (r : List (Int × Nat)) : ∀ x ∈ runForm r, 0 ≤ x ∧ x < 256 := by
  intro x hx
  obtain ⟨y, _, hy⟩ := List.mem_flatMap.1 hx
  rcases List.mem_append.1 hy with h | h
  · exact leb_bytes _ x h
  · exact leb_bytes _ x h
theorem runs_len (l : List Int) : (runsOf l).length ≤ l.length := by
  induction l with
  | nil => exact Nat.le_refl _
  | cons x l ih =>
    rw [runsOf]
    split
    · rename_i he; rw [he] at ih; simp
    · rename_i y k r he
      rw [he] at ih
      split
      · simp only [List.length_cons] at ih ⊢; omega
      · simp only [List.length_cons] at ih ⊢; omega
theorem form_len : ∀ (r : List (Int × Nat)), okr none r ∨ (∃ p, okr p r) → (∀ y ∈ r, y.2 ≤ 65536) → (runForm r).length ≤ 20 * r.length := by
  intro r
  induction r with
  | nil => intro _ _; exact Nat.zero_le _
  | cons y r ih =>
    obtain ⟨x, k⟩ := y
    intro h hk
    obtain ⟨p, h⟩ : ∃ p, okr p ((x, k) :: r) := by rcases h with h | h; exact ⟨_, h⟩; exact h
    obtain ⟨_, _, hx, hr⟩ := h
    have hz := zz_range hx.1 hx.2
    have hk0 := hk (x, k) (by simp)
    have h1 := leb_length10 (v := k - 1) (by have : k ≤ 65536 := hk0; omega)
    have h2 := leb_length10 (v := (zz x).toNat) (by omega)
    have := ih (.inr ⟨_, hr⟩) (fun y hy => hk y (by simp [hy]))
    rw [runForm_cons, List.length_append, List.length_append, List.length_cons]
    omega
theorem sums_steps : ∀ (l : List Int) (a : Int), I64 a → (∀ x ∈ l, I64 x) → sums a (steps a l) = l := by
  intro l
  induction l with
  | nil => intro a _ _; rfl
  | cons x l ih =>
    intro a ha h
    have hx := h x (by simp)
    have e : wrap64 (a + wrap64 (x - a)) = x := by unfold I64 at ha hx; unfold wrap64; omega
    rw [steps, sums, e, ih x hx (fun y hy => h y (by simp [hy]))]
theorem zags_zz : ∀ (s : List Int), (∀ x ∈ s, I64 x) → zags (s.map zz) = s := by
  intro s
  induction s with
  | nil => intro _; rfl
  | cons x s ih =>
    intro h
    have hx := h x (by simp)
    show zag (zz x).toNat :: zags (s.map zz) = _
    rw [zag_zz hx.1 hx.2, ih (fun y hy => h y (by simp [hy]))]
theorem i64_0 : I64 0 := by unfold I64; omega
theorem restv_put (p d : List Int) (hn : d.length ≤ 300) (hd : ∀ x ∈ d, 0 ≤ x ∧ x < 18446744073709551616) : restv (p ++ ((maxW d : Int) :: (packed d (maxW d)).1)) p.length d.length = (zags d, 0) := by
  have h64 := maxW_64 _ hd
  obtain ⟨_, _, _, hu⟩ := unpack_pack d (maxW d) h64 hn hd ((maxW_fit _ _ h64 hd).1 (Nat.le_refl _))
  have hlt : p.length < (p ++ ((maxW d : Int) :: (packed d (maxW d)).1)).length := by simp
  have hget : (p ++ ((maxW d : Int) :: (packed d (maxW d)).1))[p.length]'hlt = (maxW d : Int) := by simp
  have hdrop : (p ++ ((maxW d : Int) :: (packed d (maxW d)).1)).drop (p.length + 1) = (packed d (maxW d)).1 := by
    rw [← List.drop_drop, List.drop_left]; rfl
  unfold restv
  rw [dif_pos hlt, hget, if_neg (by omega), hdrop, hu, if_pos rfl, if_pos rfl]
theorem delta_get_form (v : Nat) (hv : v < 18446744073709551616) (d : List Int) (hd0 : 0 < d.length) (hn : d.length ≤ 299) (hd : ∀ x ∈ d, 0 ≤ x ∧ x < 18446744073709551616) (n : Int) (hN : n = (d.length : Int) + 1) :
    deltav (leb v ++ ((maxW d : Int) :: (packed d (maxW d)).1)) n = (sums 0 (zag v :: zags d), 0) := by
  have hs := sh_leb ((maxW d : Int) :: (packed d (maxW d)).1) v 0 0 (by omega) (fun h => by omega) (by rw [Nat.pow_zero]; omega)
  rw [Nat.pow_zero, Nat.mul_one, Nat.zero_add, Nat.zero_add] at hs
  have hr := restv_put (leb v) d (by omega) hd
  have e : n - 1 = (d.length : Int) := by omega
  unfold deltav
  rw [if_neg (by omega), if_neg (by omega), hs, if_pos rfl, if_neg (by omega), e]
  simp only [Int.toNat_natCast]
  rw [hr, if_pos rfl]
theorem deltaForm_two (z y : Int) (r : List Int) : deltaForm (z :: y :: r) = leb z.toNat ++ ((maxW (y :: r) : Int) :: (packed (y :: r) (maxW (y :: r))).1) := by
  rw [deltaForm, List.append_assoc, List.singleton_append]
theorem delta_get_put (l : List Int) (hn : l.length ≤ 300) (hl : ∀ x ∈ l, I64 x) : deltav (deltaOf l) l.length = (l, 0) := by
  have hss := sums_steps l 0 i64_0 hl
  have hsl := steps_length l 0
  have hsi := steps_i64 l 0
  unfold deltaOf
  generalize steps 0 l = s at hss hsl hsi
  subst hss
  rw [sums_length] at hn ⊢
  match s, hn, hsi with
  | [], _, _ =>
    have e : (([] : List Int).length : Int) = 0 := rfl
    show deltav [] (([] : List Int).length : Int) = _
    unfold deltav
    rw [e, if_neg (by omega), if_pos rfl, if_neg (by decide)]; rfl
  | [a], hn, hsi =>
    have ha := hsi a (by simp)
    have hz := zz_range ha.1 ha.2
    have hs := sh_leb [] (zz a).toNat 0 0 (by omega) (fun h => by omega) (by rw [Nat.pow_zero]; omega)
    rw [Nat.pow_zero, Nat.mul_one, Nat.zero_add, Nat.zero_add, List.append_nil] at hs
    have e : (([a] : List Int).length : Int) = 1 := rfl
    have ef : deltaForm ([a].map zz) = leb (zz a).toNat := rfl
    rw [ef]
    unfold deltav
    rw [e, if_neg (by omega), if_neg (by omega), hs, if_pos rfl, if_pos rfl, Int.toNat_natCast, if_neg (Nat.lt_irrefl _), Int.toNat_natCast, zag_zz ha.1 ha.2]
  | a :: y :: r, hn, hsi =>
    have ha := hsi a (by simp)
    have hz := zz_range ha.1 ha.2
    have hzu := zz_u64 (y :: r) (fun x hx => hsi x (List.mem_cons_of_mem _ hx))
    have hzz := zags_zz (y :: r) (fun x hx => hsi x (List.mem_cons_of_mem _ hx))
    have hl : ((y :: r).map zz).length = r.length + 1 := by rw [List.length_map, List.length_cons]
    have hn' : r.length + 2 ≤ 300 := hn
    have ef : deltaForm ((a :: y :: r).map zz) = leb (zz a).toNat ++ ((maxW ((y :: r).map zz) : Int) :: (packed ((y :: r).map zz) (maxW ((y :: r).map zz))).1) := by
      rw [List.map_cons, List.map_cons, deltaForm_two]
    have := delta_get_form (zz a).toNat (by omega) ((y :: r).map zz) (by omega) (by omega) hzu ((a :: y :: r).length : Int) (by rw [hl]; simp only [List.length_cons]; omega)
    rw [ef, this, hzz, zag_zz ha.1 ha.2]
theorem delta_bytes (l : List Int) (hn : l.length ≤ 300) : ∀ x ∈ deltaOf l, 0 ≤ x ∧ x < 256 := by
  have hz := zz_u64 _ (steps_i64 l 0)
  have hl : ((steps 0 l).map zz).length ≤ 300 := by rw [List.length_map, steps_length]; exact hn
  unfold deltaOf
  generalize (steps 0 l).map zz = s at *
  match s, hz, hl with
  | [], _, _ => intro x hx; cases hx
  | [a], _, _ => exact leb_bytes _
  | a :: y :: r, hz, hl =>
    have hd : ∀ x ∈ y :: r, 0 ≤ x ∧ x < 18446744073709551616 := fun x hx => hz x (List.mem_cons_of_mem _ hx)
    have h64 := maxW_64 _ hd
    obtain ⟨_, hb, _, _⟩ := unpack_pack (y :: r) (maxW (y :: r)) h64 (by simp only [List.length_cons] at hl ⊢; omega) hd ((maxW_fit _ _ h64 hd).1 (Nat.le_refl _))
    intro x hx
    rw [deltaForm] at hx
    rcases List.mem_append.1 hx with hx | hx
    · rcases List.mem_append.1 hx with hx | hx
      · exact leb_bytes _ x hx
      · simp at hx; omega
    · exact hb x hx
theorem nxt_eq {p v : Int} (hp : I64 p) (h0 : 0 ≤ v) (h1 : v < 18446744073709551616) : (¬ nxt p v ≤ p → nxt p v = p + v + 1 ∧ I64 (nxt p v)) ∧ (I64 (p + v + 1) → nxt p v = p + v + 1) := by
  unfold I64 at *
  unfold nxt
  rw [u64w]
  unfold wrap64
  constructor <;> intro h <;> omega
/-- what is read, from what is written: reading gaps -/
theorem lst_gaps (b : List Int) : ∀ (r out : List Int) (p : Int) (a : Nat) (rest : List Int), (out ++ [p] ++ r).Pairwise (fun x y => x < y) → (∀ x ∈ out ++ [p] ++ r, I64 x) → a ≤ b.length → b.drop a = lebs (gaps p r) ++ rest →
    lst b r.length a (out ++ [p]) = (out ++ [p] ++ r, a + (lebs (gaps p r)).length, 0) := by
  intro r
  induction r with
  | nil => intro out p a rest _ _ _ _; simp [lst, gaps, lebs]
  | cons y r ih =>
    intro out p a rest hs hi ha hb
    have hp := hi p (by simp)
    have hy := hi y (by simp)
    have hlt : p < y := by
      have h2 := (List.pairwise_append.1 hs).2.2 p (by simp) y (by simp)
      exact h2
    have hg := gap_r hp hy hlt
    rw [gaps, lebs, List.append_assoc] at hb
    have hsh := sh_leb (lebs (gaps y r) ++ rest) (y - p - 1).toNat 0 0 (by omega) (fun h => by omega) (by rw [Nat.pow_zero]; omega)
    rw [Nat.pow_zero, Nat.mul_one, Nat.zero_add, Nat.zero_add, Int.toNat_of_nonneg hg.1, ← hb] at hsh
    have hlen : (out ++ [p]).length = out.length + 1 := by simp
    have hrd : rd (out ++ [p]) (((out ++ [p]).length : Int) - 1) = p := by
      rw [hlen, show ((out.length + 1 : Nat) : Int) - 1 = (out.length : Int) by omega, rd_nat]; simp
    have hn : nxt p (y - p - 1) = y := by
      rw [(nxt_eq hp hg.1 hg.2).2 (by rw [show p + (y - p - 1) + 1 = y by omega]; exact hy)]; omega
    have hle : (leb (y - p - 1).toNat).length ≤ b.length - a := by
      have := congrArg List.length hb
      rw [List.length_drop, List.length_append] at this; omega
    have hdrop : b.drop (a + (leb (y - p - 1).toNat).length) = lebs (gaps y r) ++ rest := by
      rw [← List.drop_drop, hb, List.drop_left]
    have hnext := ih (out ++ [p]) y (a + (leb (y - p - 1).toNat).length) rest (by simpa using hs) (by simpa using hi) (by omega) hdrop
    rw [List.length_cons, lst, hsh]
    simp only [if_true, Int.toNat_natCast]
    rw [if_neg (by omega), hrd, hn, if_neg (by omega), hnext, gaps, lebs, List.length_append]
    simp [Nat.add_assoc]
theorem lst_form (b L rest : List Int) (a : Nat) (hs : L.Pairwise (fun x y => x < y)) (hi : ∀ x ∈ L, I64 x) (ha : a ≤ b.length) (hb : b.drop a = formOf L ++ rest) : lst b L.length a [] = (L, a + (formOf L).length, 0) := by
  cases L with
  | nil => rfl
  | cons x r =>
    have hx := hi x (by simp)
    have hz := zz_range hx.1 hx.2
    rw [formOf, List.append_assoc] at hb
    have hsh := sh_leb (lebs (gaps x r) ++ rest) (zz x).toNat 0 0 (by omega) (fun h => by omega) (by rw [Nat.pow_zero]; omega)
    rw [Nat.pow_zero, Nat.mul_one, Nat.zero_add, Nat.zero_add, ← hb] at hsh
    have hle : (leb (zz x).toNat).length ≤ b.length - a := by
      have := congrArg List.length hb
      rw [List.length_drop, List.length_append] at this; omega
    have hdrop : b.drop (a + (leb (zz x).toNat).length) = lebs (gaps x r) ++ rest := by
      rw [← List.drop_drop, hb, List.drop_left]
    have hnext := lst_gaps b r [] x (a + (leb (zz x).toNat).length) rest (by simpa using hs) (by simpa using hi) (by omega) hdrop
    rw [List.length_cons, lst, hsh]
    simp only [if_true, Int.toNat_natCast, List.length_nil, List.nil_append, zag_zz hx.1 hx.2]
    rw [List.nil_append] at hnext
    rw [hnext, formOf, List.length_append]
    simp [Nat.add_assoc]
theorem rd_idx {L : List Int} {x : Int} (h : x ∈ L) : rd L ((L.idxOf x : Nat) : Int) = x := by
  rw [rd_get (idx_lt h), idx_at h]
theorem picked_places {L l : List Int} (hm : ∀ x, x ∈ L ↔ x ∈ l) (hL : L.Pairwise (fun x y => x < y)) : picked L (places L l) = (l, 0) := by
  unfold picked
  rw [if_neg, if_pos]
  · unfold places
    rw [List.map_map]
    have : l.map (rd L ∘ fun x => ((L.idxOf x : Nat) : Int)) = l.map id := List.map_congr_left (fun x hx => rd_idx ((hm x).2 hx))
    rw [this, List.map_id]
  · intro j hj
    have hmem := List.getElem_mem hj
    refine List.mem_map.2 ⟨L[j], (hm _).1 hmem, ?_⟩
    have h1 := idx_lt hmem
    have h2 := idx_at hmem
    have : L.idxOf L[j] = j := by
      rcases Nat.lt_trichotomy (L.idxOf L[j]) j with c | c | c
      · have := lt_at hL hj c; omega
      · exact c
      · have := lt_at hL h1 c; omega
    rw [this]
  · rintro ⟨x, hx, h⟩
    obtain ⟨y, hy, rfl⟩ := List.mem_map.1 hx
    have := idx_lt ((hm y).2 hy)
    omega
theorem dict_get_put (l : List Int) (hl : l.length ≤ 300) (hli : ∀ x ∈ l, I64 x) : dictv (dictOf l) l.length = (l, 0) := by
  have hL := dl_lt l
  have hn0 := dl_len l
  have hLi : ∀ x ∈ dl l, I64 x := fun x hx => hli x ((dl_mem l x).1 hx)
  have hmm := dl_mem l
  unfold dictOf
  generalize dl l = L at *
  have hwd := wd_64 L.length (by omega)
  have hpf := places_fit (L := L) (l := l) (fun x hx => (hmm x).2 hx) (by omega)
  obtain ⟨_, _, _, hu⟩ := unpack_pack (places L l) (wd L.length) hwd (by rw [places_len]; exact hl) hpf.1 hpf.2
  rw [places_len] at hu
  have ha : leb L.length ++ formOf L ++ [(wd L.length : Int)] ++ (packed (places L l) (wd L.length)).1 = leb L.length ++ (formOf L ++ ((wd L.length : Int) :: (packed (places L l) (wd L.length)).1)) := by simp
  rw [ha]
  generalize hB : leb L.length ++ (formOf L ++ ((wd L.length : Int) :: (packed (places L l) (wd L.length)).1)) = B
  have hsh := sh_leb (formOf L ++ ((wd L.length : Int) :: (packed (places L l) (wd L.length)).1)) L.length 0 0 (by omega) (fun h => by omega) (by rw [Nat.pow_zero]; omega)
  rw [Nat.pow_zero, Nat.mul_one, Nat.zero_add, Nat.zero_add, hB] at hsh
  have hd1 : B.drop (leb L.length).length = formOf L ++ ((wd L.length : Int) :: (packed (places L l) (wd L.length)).1) := by rw [← hB, List.drop_left]
  have hBl : (leb L.length).length + (formOf L).length < B.length := by rw [← hB]; simp
  have hlst := lst_form B L _ (leb L.length).length hL hLi (by omega) hd1
  have hv : lstv B l.length = (L, (leb L.length).length + (formOf L).length, 0) := by
    unfold lstv
    rw [hsh]
    simp only [if_true, Int.toNat_natCast]
    rw [if_neg (by omega), hlst]
  have hd2 : B.drop ((leb L.length).length + (formOf L).length) = (wd L.length : Int) :: (packed (places L l) (wd L.length)).1 := by
    rw [← List.drop_drop, hd1, List.drop_left]
  have hget : B[(leb L.length).length + (formOf L).length] = (wd L.length : Int) := by
    have := dropc B _ hBl
    rw [hd2] at this
    exact (List.cons.inj this).1.symm
  have hd3 : B.drop ((leb L.length).length + (formOf L).length + 1) = (packed (places L l) (wd L.length)).1 := by
    have := dropc B _ hBl
    rw [hd2] at this
    exact (List.cons.inj this).2.symm
  unfold dictv
  rw [if_neg (by omega), hv]
  simp only [if_true]
  rw [dif_pos hBl, hget, if_pos rfl, hd3, hu]
  simp only [if_true]
  exact picked_places hmm hL
theorem lebs_bytes : ∀ (l : List Int), ∀ x ∈ lebs l, 0 ≤ x ∧ x < 256 := by
  intro l
  induction l with
  | nil => intro x hx; cases hx
  | cons y l ih =>
    intro x hx
    rw [lebs] at hx
    rcases List.mem_append.1 hx with h | h
    · exact leb_bytes _ x h
    · exact ih x h
theorem dict_bytes (l : List Int) (hl : l.length ≤ 300) : ∀ x ∈ dictOf l, 0 ≤ x ∧ x < 256 := by
  have hn0 := dl_len l
  have hmm := dl_mem l
  unfold dictOf
  generalize dl l = L at *
  have hwd := wd_64 L.length (by omega)
  have hpf := places_fit (L := L) (l := l) (fun x hx => (hmm x).2 hx) (by omega)
  obtain ⟨_, hb, _, _⟩ := unpack_pack (places L l) (wd L.length) hwd (by rw [places_len]; exact hl) hpf.1 hpf.2
  intro x hx
  rcases List.mem_append.1 hx with hx | hx
  · rcases List.mem_append.1 hx with hx | hx
    · rcases List.mem_append.1 hx with hx | hx
      · exact leb_bytes _ x hx
      · cases L with
        | nil => cases hx
        | cons y r =>
          rw [formOf] at hx
          rcases List.mem_append.1 hx with h | h
          · exact leb_bytes _ x h
          · exact lebs_bytes _ x h
    · simp at hx; omega
  · exact hb x hx
def forev (b : List Int) (n : Int) : List Int × Int :=
  if n < 0 ∨ n > 65536 then ([], 1)
  else if n = 0 then (if 0 < b.length then ([], 3) else ([], 0))
  else if (sh b 0 0).2.2 ≠ 0 then ([], (sh b 0 0).2.2)
  else if h : (sh b 0 0).2.1.toNat < b.length then
    (if b[(sh b 0 0).2.1.toNat] > 64 then ([], 5)
    else if (unpacked (b.drop ((sh b 0 0).2.1.toNat + 1)) n b[(sh b 0 0).2.1.toNat]).2 = 0 then foreEnd (zag (sh b 0 0).1.toNat) b[(sh b 0 0).2.1.toNat] (unpacked (b.drop ((sh b 0 0).2.1.toNat + 1)) n b[(sh b 0 0).2.1.toNat]).1
    else ([], (unpacked (b.drop ((sh b 0 0).2.1.toNat + 1)) n b[(sh b 0 0).2.1.toNat]).2))
  else ([], 2)
theorem fore_f {b : List Int} (hw : ∀ x ∈ b, 0 ≤ x ∧ x < 256) (hl3 : b.length ≤ 1000000) (n : Int) : Ev (fun k => fore_Get.f k b n) (forev b n) := by
  unfold forev
  by_cases h0 : n < 0
  · rw [if_pos (.inl h0)]
    unfold fore_Get.f; simp only [if_pos h0]
    exact Ev.step (f := fun _ => some ([], 1)) (fun k => by simp only [fore_Get.j0]; rw [if_pos trivial]) (Ev.now _)
  by_cases h1 : n > 65536
  · rw [if_pos (.inr h1)]
    unfold fore_Get.f; simp only [if_neg h0, decide_eq_true h1]
    exact Ev.step (f := fun _ => some ([], 1)) (fun k => by simp only [fore_Get.j0]; rw [if_pos trivial]) (Ev.now _)
  rw [if_neg (by rintro (h | h); exact h0 h; exact h1 h)]
  unfold fore_Get.f
  simp only [if_neg h0, decide_eq_false h1]
  by_cases hn0 : n = 0
  · subst hn0
    rw [if_pos rfl]
    by_cases hb : 0 < b.length
    · rw [if_pos hb]
      refine Ev.step (f := fun k => fore_Get.j1 k b 0 true) (fun k => by simp only [fore_Get.j0]; rw [if_neg (by decide), if_pos trivial, decide_eq_true (by omega)]) ?_
      exact Ev.step (f := fun _ => some ([], 3)) (fun k => by simp only [fore_Get.j1]; rw [if_pos trivial]) (Ev.now _)
    · rw [if_neg hb]
      refine Ev.step (f := fun k => fore_Get.j1 k b 0 false) (fun k => by simp only [fore_Get.j0]; rw [if_neg (by decide), if_pos trivial, decide_eq_false (by omega)]) ?_
      exact Ev.step (f := fun _ => some ([], 0)) (fun k => by simp only [fore_Get.j1]; rw [if_neg (by decide), if_pos trivial]) (Ev.now _)
  rw [if_neg hn0]
  have hl2 : b.length < 4611686018427387904 := by omega
  have hl4 : b.length ≤ 140737488355328 := by omega
  have hnr : num_NewReader.f b = some (b, 0, 0, 0) := by unfold num_NewReader.f; rw [if_pos (by omega)]
  refine Ev.step (f := fun k => fore_Get.j1 k b n false) (fun k => by simp only [fore_Get.j0]; rw [if_neg (by decide), if_neg hn0]) ?_
  refine Ev.step (f := fun k => _) (fun k => by simp only [fore_Get.j1]; rw [if_neg (by decide), if_neg hn0, hnr, Option.bind_some]) ?_
  have z1 := zag_f 0 (by decide)
  rw [Int.natCast_zero] at z1
  rcases sh_cases (b.drop 0) 0 0 (drop_bytes hw 0) (by omega) (by decide) with h | h | ⟨v, m, h, g1, g2, hv⟩
  · refine Ev.bind (nvar_err hw hl2 (Nat.zero_le _) (.inl rfl) h) ?_
    rw [List.drop_zero] at h
    rw [h, if_pos (by simp)]
    refine Ev.bind (a := zag 0) ⟨0, fun k _ => z1⟩ ?_
    refine Ev.bind (nfix1_none (ntake_none hl4 (Nat.zero_le _) (x := 2) (y := ((0 : Nat) : Int)) (by decide))) ?_
    rw [w64 (n := 0) (by omega) (by omega)]
    simp only [if_neg (show ¬ (0 : Int) > 64 by omega)]
    exact fj2_err (x := (2 : Int)) (by omega) n _ 0
  · refine Ev.bind (nvar_err hw hl2 (Nat.zero_le _) (.inr rfl) h) ?_
    rw [List.drop_zero] at h
    rw [h, if_pos (by simp)]
    refine Ev.bind (a := zag 0) ⟨0, fun k _ => z1⟩ ?_
    refine Ev.bind (nfix1_none (ntake_none hl4 (Nat.zero_le _) (x := 4) (y := ((0 : Nat) : Int)) (by decide))) ?_
    rw [w64 (n := 0) (by omega) (by omega)]
    simp only [if_neg (show ¬ (0 : Int) > 64 by omega)]
    exact fj2_err (x := (4 : Int)) (by omega) n _ 0
  · have ok1 := nvar_ok (on := 0) hw hl2 (Nat.zero_le _) h (by rw [List.drop_zero] at g2; omega)
    rw [List.drop_zero, Nat.zero_add] at g2
    rw [List.drop_zero] at h
    rw [Nat.zero_add] at ok1
    refine Ev.bind ok1 ?_
    refine Ev.bind (a := zag v) ⟨0, fun k _ => zag_f v hv⟩ ?_
    rw [h]
    simp only [Int.toNat_natCast, ne_eq, not_true_eq_false, if_false]
    by_cases hm : m < b.length
    · have hc := hw _ (List.getElem_mem hm)
      have hwc : wrap64 b[m] = b[m] := w64 (by omega) (by omega)
      rw [dif_pos hm]
      refine Ev.bind (nfix1_ok hw hl4 hm 0) ?_
      by_cases h64 : b[m] > 64
      · rw [if_pos h64]
        simp only [hwc, if_pos h64, num_Reader_Fail.f, num_Reader_Fail.next, Option.bind_some]
        rw [if_pos ⟨trivial, by decide⟩]
        exact fj2_err (x := (5 : Int)) (by omega) n _ _
      · rw [if_neg h64]
        simp only [hwc, if_neg h64]
        exact fj2_ok hw hl4 (by omega) 0 n (zag v) b[m] (by omega) (by omega) (zag_range hv)
    · obtain rfl : m = b.length := by omega
      rw [dif_neg hm]
      refine Ev.bind (nfix1_none (ntake_end hl4 0)) ?_
      rw [w64 (n := 0) (by omega) (by omega)]
      simp only [if_neg (show ¬ (0 : Int) > 64 by omega)]
      exact fj2_err (x := (2 : Int)) (by omega) n _ 0
theorem above_eq {m : Int} {l : List Int} (hl : ∀ x ∈ l, -9223372036854775808 ≤ x ∧ x ≤ 9223372036854775807) (hm : -9223372036854775808 ≤ m ∧ ∀ x ∈ l, m ≤ x) : above m l = l.map (fun x => x - m) := by
  unfold above
  refine List.map_congr_left (fun x hx => ?_)
  have h1 := hl x hx
  have h2 := hm.2 x hx
  rw [u64w, u64w, u64w]; omega
theorem foreEnd_put {l : List Int} (h : l ≠ []) (hl : ∀ x ∈ l, -9223372036854775808 ≤ x ∧ x ≤ 9223372036854775807) : foreEnd (minOf l) (maxW (above (minOf l) l)) (above (minOf l) l) = (l, 0) := by
  have hm := hl _ (minOf_mem h)
  have e := above_eq hl ⟨hm.1, fun x hx => minOf_le hx⟩
  have hd := above_u64 (minOf l) l
  rw [e] at hd ⊢
  unfold foreEnd
  rw [if_neg]
  · rw [List.map_map]
    have : l.map (plus (minOf l) ∘ fun x => x - minOf l) = l.map id := by
      refine List.map_congr_left (fun x hx => ?_)
      have h1 := hl x hx
      have h2 := minOf_le hx
      have := (plus_ok hm (hd _ (List.mem_map.2 ⟨x, hx, rfl⟩))).2 (by unfold bad; omega)
      simp only [Function.comp, id]
      rw [this]; omega
    rw [this, List.map_id]
  · rintro (⟨x, hx, hb⟩ | h1 | h1)
    · obtain ⟨y, hy, rfl⟩ := List.mem_map.1 hx
      have := hl y hy
      unfold bad at hb; omega
    · exact h1 rfl
    · exact h1 (List.mem_map.2 ⟨minOf l, minOf_mem h, by omega⟩)
theorem fore_get_put (l : List Int) (hn : l.length ≤ 300) (hl : ∀ x ∈ l, -9223372036854775808 ≤ x ∧ x ≤ 9223372036854775807) : forev (foreOf l) l.length = (l, 0) := by
  unfold forev
  rw [if_neg (by omega)]
  by_cases h : l = []
  · subst h
    rw [if_pos (show ((([] : List Int).length : Nat) : Int) = 0 from rfl)]; rfl
  · have hpos : 0 < l.length := List.length_pos_iff.2 h
    rw [if_neg (by omega)]
    have hm := hl _ (minOf_mem h)
    have hz := zz_range hm.1 hm.2
    have hd := above_u64 (minOf l) l
    have h64 := maxW_64 _ hd
    have hs := sh_leb ((maxW (above (minOf l) l) : Int) :: (packed (above (minOf l) l) (maxW (above (minOf l) l))).1) (zz (minOf l)).toNat 0 0 (by omega) (fun h => by omega) (by rw [Nat.pow_zero]; omega)
    rw [Nat.pow_zero, Nat.mul_one, Nat.zero_add, Nat.zero_add] at hs
    have ef : foreOf l = leb (zz (minOf l)).toNat ++ ((maxW (above (minOf l) l) : Int) :: (packed (above (minOf l) l) (maxW (above (minOf l) l))).1) := by
      unfold foreOf; rw [if_neg h, List.append_assoc]; rfl
    rw [ef, hs]
    simp only [Int.toNat_natCast, ne_eq, not_true_eq_false, if_false]
    have hlt : (leb (zz (minOf l)).toNat).length < (leb (zz (minOf l)).toNat ++ ((maxW (above (minOf l) l) : Int) :: (packed (above (minOf l) l) (maxW (above (minOf l) l))).1)).length := by simp
    have hget : (leb (zz (minOf l)).toNat ++ ((maxW (above (minOf l) l) : Int) :: (packed (above (minOf l) l) (maxW (above (minOf l) l))).1))[(leb (zz (minOf l)).toNat).length]'hlt = (maxW (above (minOf l) l) : Int) := by simp
    rw [dif_pos hlt, hget, if_neg (by omega)]
    have hdrop : (leb (zz (minOf l)).toNat ++ ((maxW (above (minOf l) l) : Int) :: (packed (above (minOf l) l) (maxW (above (minOf l) l))).1)).drop ((leb (zz (minOf l)).toNat).length + 1) = (packed (above (minOf l) l) (maxW (above (minOf l) l))).1 := by
      rw [← List.drop_drop, List.drop_left]; rfl
    rw [hdrop]
    have hu := unpack_pack (above (minOf l) l) (maxW (above (minOf l) l)) h64 (by rw [above_length]; exact hn) hd ((maxW_fit _ _ h64 hd).1 (Nat.le_refl _))
    obtain ⟨_, _, _, hu⟩ := hu
    rw [above_length] at hu
    rw [hu, if_pos rfl, zag_zz hm.1 hm.2]
    exact foreEnd_put h hl
theorem fore_bytes (l : List Int) (hn : l.length ≤ 300) (_ : ∀ x ∈ l, -9223372036854775808 ≤ x ∧ x ≤ 9223372036854775807) : ∀ x ∈ foreOf l, 0 ≤ x ∧ x < 256 := by
  unfold foreOf
  by_cases h : l = []
  · rw [if_pos h]; intro x hx; cases hx
  · rw [if_neg h]
    have hd := above_u64 (minOf l) l
    have h64 := maxW_64 _ hd
    obtain ⟨_, hb, _, _⟩ := unpack_pack (above (minOf l) l) (maxW (above (minOf l) l)) h64 (by rw [above_length]; exact hn) hd ((maxW_fit _ _ h64 hd).1 (Nat.le_refl _))
    intro x hx
    rcases List.mem_append.1 hx with hx | hx
    · rcases List.mem_append.1 hx with hx | hx
      · exact leb_bytes _ x hx
      · simp at hx; omega
    · exact hb x hx
theorem sn_bs (s : ByteArray) : strOfNums (num_PutBlobS.bs s) = s := by
  refine tb_inj ?_
  unfold tb
  rw [strOfNums_data]
  unfold num_PutBlobS.bs
  rw [List.map_map]
  have : s.data.toList.map ((fun n : Int => UInt8.ofNat n.toNat) ∘ fun b : UInt8 => (b.toNat : Int)) = s.data.toList.map id := List.map_congr_left (fun x _ => by simp)
  rw [this, List.map_id]
theorem bs_bytes (s : ByteArray) : ∀ x ∈ num_PutBlobS.bs s, 0 ≤ x ∧ x < 256 := by
  intro x hx
  obtain ⟨b, _, rfl⟩ := List.mem_map.1 hx
  have := b.toNat_lt
  omega
theorem blb_blob {b rest : List Int} {s : ByteArray} {a : Nat} (ha : a ≤ b.length) (hs : s.size ≤ 65536) (hb : b.drop a = blob s ++ rest) : blb b a = (num_PutBlobS.bs s, a + (blob s).length, 0) := by
  have hbl := num_PutBlobS.bs_length s
  have hb2 := hb
  unfold blob at hb
  rw [List.append_assoc] at hb
  have hsh := sh_leb (num_PutBlobS.bs s ++ rest) s.size 0 0 (by omega) (fun h => by omega) (by rw [Nat.pow_zero]; omega)
  rw [Nat.pow_zero, Nat.mul_one, Nat.zero_add, Nat.zero_add, ← hb] at hsh
  have hlen := congrArg List.length hb
  rw [List.length_drop, List.length_append, List.length_append, hbl] at hlen
  have hdrop : b.drop (a + (leb s.size).length) = num_PutBlobS.bs s ++ rest := by rw [← List.drop_drop, hb, List.drop_left]
  unfold blb
  rw [hsh]
  simp only [if_true, Int.toNat_natCast]
  rw [if_neg (by omega), if_neg (by omega), hdrop]
  have e : (num_PutBlobS.bs s ++ rest).take s.size = num_PutBlobS.bs s := by rw [← hbl, List.take_left]
  rw [e]
  unfold blob
  rw [List.length_append, hbl, Nat.add_assoc]
theorem rises_of {out : List ByteArray} {s : ByteArray} (h : Asc (out ++ [s])) : rises out s := by
  intro y hy
  exact (List.pairwise_append.1 h).2.2 y (List.mem_of_getLast? hy) s (by simp)
theorem tst_blobs (b : List Int) : ∀ (L out : List ByteArray) (a : Nat) (rest : List Int), Asc (out ++ L) → (∀ s ∈ L, s.size ≤ 65536) → a ≤ b.length → b.drop a = blobs L ++ rest →
    tst b L.length a out = (out ++ L, a + (blobs L).length, 0) := by
  intro L
  induction L with
  | nil => intro out a rest _ _ _ _; simp [tst, blobs]
  | cons s r ih =>
    intro out a rest hA hs ha hb
    rw [blobs, List.append_assoc] at hb
    have hb1 := blb_blob ha (hs s (by simp)) hb
    have hdrop : b.drop (a + (blob s).length) = blobs r ++ rest := by rw [← List.drop_drop, hb, List.drop_left]
    have hlen := congrArg List.length hb
    rw [List.length_drop, List.length_append] at hlen
    have hA2 : Asc ((out ++ [s]) ++ r) := by simpa using hA
    have hr : rises out s := rises_of (List.pairwise_append.1 hA2).1
    have hn := ih (out ++ [s]) (a + (blob s).length) rest hA2 (fun x hx => hs x (by simp [hx])) (by omega) hdrop
    rw [List.length_cons, tst, hb1]
    simp only [if_true]
    rw [sn_bs, if_pos hr, hn, blobs, List.length_append]
    simp [Nat.add_assoc]
theorem tpicked_places {L l : List ByteArray} (hm : ∀ x, x ∈ L ↔ x ∈ l) (hL : Asc L) : tpicked L (tplaces L l) = (l, 0) := by
  unfold tpicked
  rw [if_neg, if_pos]
  · unfold tplaces
    rw [List.map_map]
    have : l.map (rdOf ByteArray.empty L ∘ fun s => (((pl s L).1 : Nat) : Int)) = l.map id := List.map_congr_left (fun x hx => by
      obtain ⟨h1, h2⟩ := pl_get hL ((hm x).2 hx)
      simp only [Function.comp, id]
      rw [rdo_get h1, h2])
    rw [this, List.map_id]
  · intro j hj
    have hmem := List.getElem_mem hj
    refine List.mem_map.2 ⟨L[j], (hm _).1 hmem, ?_⟩
    obtain ⟨h1, h2⟩ := pl_get hL hmem
    rw [asc_inj hL h1 hj h2]
  · rintro ⟨x, hx, h⟩
    obtain ⟨y, hy, rfl⟩ := List.mem_map.1 hx
    obtain ⟨h1, _⟩ := pl_get hL ((hm y).2 hy)
    omega
theorem text_get_put (l : List ByteArray) (hl : l.length ≤ 300) (hs : ∀ s ∈ l, s.size ≤ 65536) : textv (textOf l) l.length = (l, 0) := by
  have hL := tl_asc l
  have hn0 := tl_len l
  have hLs : ∀ x ∈ tl l, x.size ≤ 65536 := fun x hx => hs x ((tl_mem l x).1 hx)
  have hmm := tl_mem l
  unfold textOf
  generalize tl l = L at *
  have hwd := wd_64 L.length (by omega)
  have hpf := tplaces_fit (L := L) (l := l) hL (fun x hx => (hmm x).2 hx) (by omega)
  obtain ⟨_, _, _, hu⟩ := unpack_pack (tplaces L l) (wd L.length) hwd (by rw [tplaces_len]; exact hl) hpf.1 hpf.2
  rw [tplaces_len] at hu
  have ha : leb L.length ++ blobs L ++ [(wd L.length : Int)] ++ (packed (tplaces L l) (wd L.length)).1 = leb L.length ++ (blobs L ++ ((wd L.length : Int) :: (packed (tplaces L l) (wd L.length)).1)) := by simp
  rw [ha]
  generalize hB : leb L.length ++ (blobs L ++ ((wd L.length : Int) :: (packed (tplaces L l) (wd L.length)).1)) = B
  have hsh := sh_leb (blobs L ++ ((wd L.length : Int) :: (packed (tplaces L l) (wd L.length)).1)) L.length 0 0 (by omega) (fun h => by omega) (by rw [Nat.pow_zero]; omega)
  rw [Nat.pow_zero, Nat.mul_one, Nat.zero_add, Nat.zero_add, hB] at hsh
  have hd1 : B.drop (leb L.length).length = blobs L ++ ((wd L.length : Int) :: (packed (tplaces L l) (wd L.length)).1) := by rw [← hB, List.drop_left]
  have hBl : (leb L.length).length + (blobs L).length < B.length := by rw [← hB]; simp
  have hlst := tst_blobs B L [] (leb L.length).length _ (by simpa using hL) hLs (by omega) hd1
  rw [List.nil_append] at hlst
  have hv : tsv B l.length = (L, (leb L.length).length + (blobs L).length, 0) := by
    unfold tsv
    rw [hsh]
    simp only [if_true, Int.toNat_natCast]
    rw [if_neg (by omega), hlst]
  have hd2 : B.drop ((leb L.length).length + (blobs L).length) = (wd L.length : Int) :: (packed (tplaces L l) (wd L.length)).1 := by
    rw [← List.drop_drop, hd1, List.drop_left]
  have hget : B[(leb L.length).length + (blobs L).length] = (wd L.length : Int) := by
    have := dropc B _ hBl
    rw [hd2] at this
    exact (List.cons.inj this).1.symm
  have hd3 : B.drop ((leb L.length).length + (blobs L).length + 1) = (packed (tplaces L l) (wd L.length)).1 := by
    have := dropc B _ hBl
    rw [hd2] at this
    exact (List.cons.inj this).2.symm
  unfold textv
  rw [if_neg (by omega), hv]
  simp only [if_true]
  rw [dif_pos hBl, hget, if_pos rfl, hd3, hu]
  simp only [if_true]
  exact tpicked_places hmm hL
theorem blobs_bytes : ∀ (l : List ByteArray), ∀ x ∈ blobs l, 0 ≤ x ∧ x < 256 := by
  intro l
  induction l with
  | nil => intro x hx; cases hx
  | cons y l ih =>
    intro x hx
    rw [blobs] at hx
    rcases List.mem_append.1 hx with h | h
    · unfold blob at h
      rcases List.mem_append.1 h with h | h
      · exact leb_bytes _ x h
      · exact bs_bytes _ x h
    · exact ih x h
theorem text_bytes (l : List ByteArray) (hl : l.length ≤ 300) : ∀ x ∈ textOf l, 0 ≤ x ∧ x < 256 := by
  have hL := tl_asc l
  have hn0 := tl_len l
  have hmm := tl_mem l
  unfold textOf
  generalize tl l = L at *
  have hwd := wd_64 L.length (by omega)
  have hpf := tplaces_fit (L := L) (l := l) hL (fun x hx => (hmm x).2 hx) (by omega)
  obtain ⟨_, hb, _, _⟩ := unpack_pack (tplaces L l) (wd L.length) hwd (by rw [tplaces_len]; exact hl) hpf.1 hpf.2
  intro x hx
  rcases List.mem_append.1 hx with hx | hx
  · rcases List.mem_append.1 hx with hx | hx
    · rcases List.mem_append.1 hx with hx | hx
      · exact leb_bytes _ x hx
      · exact blobs_bytes _ x hx
    · simp at hx; omega
  · exact hb x hx
theorem runs_get_put (l : List Int) (hl : l.length ≤ 300) (hl' : ∀ x ∈ l, -9223372036854775808 ≤ x ∧ x ≤ 9223372036854775807) : rgetv (runForm (runsOf l)) l.length = (l, 0) := by
  obtain ⟨o1, o2⟩ := runsOf_okr l hl'
  have hk : ∀ y ∈ runsOf l, y.2 ≤ 65536 := fun y hy => by have := (runsOf_ok l hl' y hy).2.2; omega
  have hrl := runs_len l
  have hfl := form_len (runsOf l) (.inl o1) hk
  have hg := rgt_runs (runsOf l) [] [] ((runForm (runsOf l)).length + 1) l.length o1 (by rw [o2]; simp) (by omega) (by omega)
  rw [List.nil_append, List.nil_append, o2, List.length_nil] at hg
  unfold rgetv
  rw [if_neg (by omega), Int.toNat_natCast, hg]
theorem plain_get_put (l : List Int) (hl : l.length ≤ 300) (hw : ∀ x ∈ l, -9223372036854775808 ≤ x ∧ x ≤ 9223372036854775807) : getv (plainOf l) l.length = (l, 0) := by
  have := get_all l hl hw []
  rw [List.append_nil, if_neg (by simp)] at this
  exact this
end Go.Proofs.YtehbkhddbdgbcaaGreatDoor.Pure
