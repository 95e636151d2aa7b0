/- What is got is put as it was, in plain words. -/
import Derived.Test.YtehbkhddbdgbcaaGreatDoorChPg
import Derived.Test.YtehbkhddbdgbcaaGreatDoorPChunkBackx5
import Derived.Test.YtehbkhddbdgbcaaGreatDoorPChunkBackx8
import Derived.Test.YtehbkhddbdgbcaaGreatDoorPChunkBackx12
namespace Go.Proofs.YtehbkhddbdgbcaaGreatDoor.Pure
open Go.RowKit Go.Proofs.YtehbkhddbdgbcaaGreatDoor.PChunkBack Go.Proofs.YtehbkhddbdgbcaaGreatDoorW.PrintWords Go.Proofs.YtehbkhddbdgbcaaGreatDoorW.PrintLast Go.Proofs.YtehbkhddbdgbcaaGreatDoorW.PrintMore
set_option linter.unusedVariables false
set_option linter.unusedSimpArgs false
theorem same_l0 (xs ys : List Int) (hl : xs.length = ys.length) (hb : xs.length < 9223372036854775807) : ∀ (d k i : Nat), xs.length = i + d → d < k → estreatref01_Same.l0 k xs ys i = some (decide (xs.drop i = ys.drop i)) := by
  intro d
  induction d with
  | zero =>
    intro k i hd hk
    obtain ⟨k, rfl⟩ : ∃ m, k = m + 1 := ⟨k - 1, by omega⟩
    simp only [estreatref01_Same.l0]; rw [if_neg (by omega), List.drop_of_length_le (by omega), List.drop_of_length_le (by omega)]; simp
  | succ d ih =>
    intro k i hd hk
    obtain ⟨k, rfl⟩ : ∃ m, k = m + 1 := ⟨k - 1, by omega⟩
    simp only [estreatref01_Same.l0]
    have := ih k (i + 1) (by omega) (by omega)
    simp only [Int.natCast_add, Int.natCast_one] at this
    rw [if_pos (by omega), if_pos (by omega), if_pos (by omega), rd_get (by omega), rd_get (by omega), w64 (by omega) (by omega), this]
    have ex : xs.drop i = xs[i] :: xs.drop (i + 1) := List.drop_eq_getElem_cons (by omega)
    have ey : ys.drop i = ys[i] :: ys.drop (i + 1) := List.drop_eq_getElem_cons (by omega)
    rw [ex, ey]
    by_cases h : xs[i] = ys[i]
    · rw [if_pos h, h]; simp only [List.cons.injEq, true_and]
    · rw [if_neg h, decide_eq_false]; simp only [List.cons.injEq, h, false_and, not_false_eq_true]
theorem same_f (xs ys : List Int) (hb : xs.length < 9223372036854775807) : ∀ k, xs.length < k → estreatref01_Same.f k xs ys = some (decide (xs = ys)) := by
  intro k hk
  unfold estreatref01_Same.f
  by_cases h : xs.length = ys.length
  · rw [if_pos (by omega)]
    have := same_l0 xs ys h hb xs.length k 0 (by omega) hk
    simpa using this
  · rw [if_neg (by omega)]
    have : xs ≠ ys := fun e => h (by rw [e])
    simp [this]
theorem foldmn_le : ∀ (l : List Int) (x : Int), l.foldl mn x ≤ x ∧ ∀ y ∈ l, l.foldl mn x ≤ y := by
  intro l
  induction l with
  | nil => intro x; exact ⟨Int.le_refl _, by simp⟩
  | cons y l ih =>
    intro x
    rw [List.foldl_cons]
    obtain ⟨h1, h2⟩ := ih (mn x y)
    obtain ⟨g1, g2, _⟩ := mn_le x y
    refine ⟨Int.le_trans h1 g1, fun z hz => ?_⟩
    rcases List.mem_cons.1 hz with rfl | hz
    · exact Int.le_trans h1 g2
    · exact h2 z hz
theorem minOf_le {l : List Int} {y : Int} (hy : y ∈ l) : minOf l ≤ y := by
  cases l with
  | nil => simp at hy
  | cons x l =>
    obtain ⟨h1, h2⟩ := foldmn_le l x
    rcases List.mem_cons.1 hy with rfl | hy
    · exact h1
    · exact h2 y hy
def sums : Int → List Int → List Int
  | _, [] => []
  | last, x :: l => wrap64 (last + x) :: sums (wrap64 (last + x)) l
theorem sums_length : ∀ (l : List Int) (a : Int), (sums a l).length = l.length := by
  intro l; induction l with
  | nil => intro a; rfl
  | cons x l ih => intro a; simp [sums, ih]
theorem sums_l0 (l : List Int) (hn : l.length ≤ 65536) : ∀ (d k i : Nat) (out : List Int) (last : Int), l.length = i + d → d < k → out.length ≤ i → delta_Sums.l0 k out last l l.length i = some (out ++ sums last (l.drop i)) := by
  intro d
  induction d with
  | zero =>
    intro k i out last hd hk ho
    obtain ⟨k, rfl⟩ : ∃ m, k = m + 1 := ⟨k - 1, by omega⟩
    simp only [delta_Sums.l0]
    rw [if_neg (by omega), List.drop_of_length_le (by omega)]; simp [sums]
  | succ d ih =>
    intro k i out last hd hk ho
    obtain ⟨k, rfl⟩ : ∃ m, k = m + 1 := ⟨k - 1, by omega⟩
    simp only [delta_Sums.l0]
    have := ih k (i + 1) (out ++ [wrap64 (last + l[i])]) (wrap64 (last + l[i])) (by omega) (by omega) (by simp; omega)
    simp only [Int.natCast_add, Int.natCast_one] at this
    rw [if_pos (by omega), if_pos (by omega), if_pos (by omega), if_pos (by omega), rd_get (by omega), w64 (n := (i : Int) + 1) (by omega) (by omega), this, dropc l i (by omega), sums, List.append_assoc, List.singleton_append]
theorem sums_f (l : List Int) (hn : l.length ≤ 65536) : Ev (fun k => delta_Sums.f k l) (sums 0 l) := ⟨l.length + 1, fun k hk => by
  show delta_Sums.f k l = _
  unfold delta_Sums.f
  have := sums_l0 l hn l.length k 0 [] 0 (by omega) (by omega) (by simp)
  simpa using this⟩
theorem lt_ext : ∀ (a b : List Int), a.Pairwise (fun x y => x < y) → b.Pairwise (fun x y => x < y) → (∀ x, x ∈ a ↔ x ∈ b) → a = b := by
  intro a
  induction a with
  | nil =>
    intro b _ _ h
    cases b with
    | nil => rfl
    | cons y b => exact absurd ((h y).2 (by simp)) (by simp)
  | cons x a ih =>
    intro b ha hb h
    cases b with
    | nil => exact absurd ((h x).1 (by simp)) (by simp)
    | cons y b =>
      obtain ⟨a1, a2⟩ := List.pairwise_cons.1 ha
      obtain ⟨b1, b2⟩ := List.pairwise_cons.1 hb
      have hxy : x = y := by
        rcases List.mem_cons.1 ((h x).1 (by simp)) with e | e
        · exact e
        · rcases List.mem_cons.1 ((h y).2 (by simp)) with e2 | e2
          · exact e2.symm
          · have := b1 x e; have := a1 y e2; omega
      subst hxy
      rw [ih b a2 b2 (fun z => ?_)]
      constructor
      · intro hz
        rcases List.mem_cons.1 ((h z).1 (by simp [hz])) with e | e
        · have := a1 z hz; omega
        · exact e
      · intro hz
        rcases List.mem_cons.1 ((h z).2 (by simp [hz])) with e | e
        · have := b1 z hz; omega
        · exact e
theorem dl_eq {l L : List Int} (h1 : L.Pairwise (fun x y => x < y)) (h2 : ∀ x, x ∈ L ↔ x ∈ l) : dl l = L := lt_ext _ _ (dl_lt l) h1 (fun x => by rw [dl_mem, h2])
theorem LT.ne {a b : ByteArray} (h : LT a b) : a ≠ b := fun e => by subst e; exact bl_irrefl _ h
theorem LT.asymm {a b : ByteArray} (h : LT a b) : ¬ LT b a := fun h2 => bl_irrefl _ (bl_trans h h2)
theorem LT.trans {a b c : ByteArray} (h : LT a b) (h2 : LT b c) : LT a c := bl_trans h h2
theorem asc_ext : ∀ (a b : List ByteArray), Asc a → Asc b → (∀ x, x ∈ a ↔ x ∈ b) → a = b := by
  intro a
  induction a with
  | nil =>
    intro b _ _ h
    cases b with
    | nil => rfl
    | cons y b => exact absurd ((h y).2 (by simp)) (by simp)
  | cons x a ih =>
    intro b ha hb h
    cases b with
    | nil => exact absurd ((h x).1 (by simp)) (by simp)
    | cons y b =>
      obtain ⟨a1, a2⟩ := List.pairwise_cons.1 ha
      obtain ⟨b1, b2⟩ := List.pairwise_cons.1 hb
      have hxy : x = y := by
        rcases List.mem_cons.1 ((h x).1 (by simp)) with e | e
        · exact e
        · rcases List.mem_cons.1 ((h y).2 (by simp)) with e2 | e2
          · exact e2.symm
          · exact absurd (b1 x e) (LT.asymm (a1 y e2))
      subst hxy
      rw [ih b a2 b2 (fun z => ?_)]
      constructor
      · intro hz
        rcases List.mem_cons.1 ((h z).1 (by simp [hz])) with e | e
        · exact absurd e.symm (LT.ne (a1 z hz))
        · exact e
      · intro hz
        rcases List.mem_cons.1 ((h z).2 (by simp [hz])) with e | e
        · exact absurd e.symm (LT.ne (b1 z hz))
        · exact e
theorem tl_eq {l L : List ByteArray} (h1 : Asc L) (h2 : ∀ x, x ∈ L ↔ x ∈ l) : tl l = L := asc_ext _ _ (tl_asc l) h1 (fun x => by rw [tl_mem, h2])
theorem asc_at {L : List ByteArray} (hL : Asc L) {i j : Nat} (hj : j < L.length) (h : i < j) : LT (L[i]'(by omega)) L[j] := List.pairwise_iff_getElem.1 hL i j (by omega) hj h
theorem asc_inj {L : List ByteArray} (hL : Asc L) {i j : Nat} (hi : i < L.length) (hj : j < L.length) (h : L[i] = L[j]) : i = j := by
  rcases Nat.lt_trichotomy i j with c | c | c
  · exact absurd h (LT.ne (asc_at hL hj c))
  · exact c
  · exact absurd h.symm (LT.ne (asc_at hL hi c))
theorem zag_range {v : Nat} (hv : v < 18446744073709551616) : -9223372036854775808 ≤ zag v ∧ zag v ≤ 9223372036854775807 := by
  unfold zag; split <;> omega
theorem leb_sh : ∀ (l : List Int) (n v0 v' m : Nat), (∀ x ∈ l, 0 ≤ x ∧ x < 256) → sh l n v0 = ((v' : Int), (m : Int), 0) →
    ∃ w, l = leb w ++ l.drop (m - n) ∧ v' = v0 + w * 128 ^ n ∧ n < m ∧ (0 < n → 0 < w) := by
  intro l
  induction l with
  | nil => intro n v0 v' m _ h; simp [sh] at h
  | cons b l ih =>
    intro n v0 v' m hw h
    obtain ⟨c, rfl, hc2⟩ : ∃ c : Nat, b = (c : Int) ∧ c < 256 := ⟨b.toNat, by have := hw b (by simp); omega, by have := hw b (by simp); omega⟩
    simp only [sh, Int.toNat_natCast] at h
    by_cases hE : 9 < n ∨ (n = 9 ∧ 1 < c % 128) ∨ (0 < n ∧ (c : Int) = 0)
    · rw [if_pos hE] at h; simp at h
    · rw [if_neg hE] at h
      by_cases h8 : (c : Int) < 128
      · rw [if_pos h8] at h
        simp only [Prod.mk.injEq, Int.natCast_inj, and_true] at h
        obtain ⟨h1, h2⟩ := h
        refine ⟨c, ?_, ?_, by omega, fun h => by omega⟩
        · rw [leb_small (by omega), show m - n = 1 by omega]; rfl
        · rw [← h1, Nat.mod_eq_of_lt (by omega)]
      · rw [if_neg h8] at h
        obtain ⟨w, h1, h2, h3, h4⟩ := ih (n + 1) _ v' m (fun x hx => hw x (by simp [hx])) h
        have hw0 := h4 (by omega)
        refine ⟨c % 128 + 128 * w, ?_, ?_, by omega, fun _ => by omega⟩
        · rw [leb_big (by omega), show (c % 128 + 128 * w) % 128 + 128 = c by omega, show (c % 128 + 128 * w) / 128 = w by omega, show m - n = (m - (n + 1)) + 1 by omega, List.drop_succ_cons, List.cons_append, ← h1]
        · rw [h2, Nat.add_mul, Nat.pow_succ, Nat.add_assoc]; congr 2; ac_rfl
theorem zz_zag {v : Nat} : (zz (zag v)).toNat = v := by
  unfold zag zz; split <;> split <;> omega
theorem numN_nums (w : Nat) : ∀ (n B : Nat), B < 2 ^ (w * n) → numN w (nums_ w n B) = B := by
  intro n
  induction n with
  | zero => intro B h; simp at h; simp [nums_, numN, h]
  | succ n ih =>
    intro B h
    simp only [nums_, numN, Int.toNat_natCast]
    rw [ih (B / 2 ^ w) (by rw [Nat.div_lt_iff_lt_mul (Nat.two_pow_pos w), ← Nat.pow_add]; rw [Nat.mul_add, Nat.mul_one] at h; exact h), Nat.mod_add_div]
theorem pack_unpack (b : List Int) (n w : Int) (hb : Bytes b) (z : List Int) (h : unpacked b n w = (z, 0)) : (z.length : Int) = n ∧ (∀ x ∈ z, 0 ≤ x ∧ x < 18446744073709551616) ∧ packed z w = (b, 0) := by
  unfold unpacked at h
  by_cases ho : okSize n w
  · rw [if_pos ho] at h
    by_cases c1 : b.length < sizeN n.toNat w.toNat
    · rw [if_pos c1] at h; exact absurd (congrArg Prod.snd h) (by simp)
    rw [if_neg c1] at h
    by_cases c2 : sizeN n.toNat w.toNat < b.length
    · rw [if_pos c2] at h; exact absurd (congrArg Prod.snd h) (by simp)
    rw [if_neg c2] at h
    by_cases c3 : leN b < 2 ^ (w.toNat * n.toNat)
    · rw [if_pos c3] at h
      have hz : nums_ w.toNat n.toNat (leN b) = z := congrArg Prod.fst h
      obtain ⟨h1, h2, h3, h4⟩ := id ho
      have hl : z.length = n.toNat := by rw [← hz, nums_length]
      have hln : (z.length : Int) = n := by rw [hl, Int.toNat_of_nonneg h1]
      refine ⟨hln, ?_, ?_⟩
      · rw [← hz]; exact nums_u64 _ (by omega) _ _
      · unfold packed
        rw [hln, if_pos ho, ← hz, if_pos (nums_fit _ _ _), numN_nums _ _ _ c3, nums_length]
        have hs : sizeN n.toNat w.toNat = b.length := Nat.le_antisymm (Nat.le_of_not_lt c1) (Nat.le_of_not_lt c2)
        rw [hs, digs_leN b hb]
    · rw [if_neg c3] at h; exact absurd (congrArg Prod.snd h) (by simp)
  · rw [if_neg ho] at h; exact absurd (congrArg Prod.snd h) (by simp)
def gt (b : List Int) : Nat → Nat → List Int → List Int × Int
  | 0, a, out => if a < b.length then ([], 3) else (out, 0)
  | c + 1, a, out => if (sh (b.drop a) 0 0).2.2 = 0 then gt b c (a + (sh (b.drop a) 0 0).2.1.toNat) (out ++ [zag (sh (b.drop a) 0 0).1.toNat]) else ([], (sh (b.drop a) 0 0).2.2)
def getv (b : List Int) (n : Int) : List Int × Int := if n < 0 ∨ n > 65536 then ([], 1) else gt b n.toNat 0 []
theorem pget_l0 {b : List Int} (hw : ∀ x ∈ b, 0 ≤ x ∧ x < 256) (hl : b.length < 4611686018427387904) (N : Nat) (hN : N ≤ 65536) : ∀ (c a : Nat) (out : List Int), N = out.length + c → a ≤ b.length →
    Ev (fun k => plain_Get.l0 k out N out.length b a 0 0) (gt b c a out) := by
  intro c
  induction c with
  | zero =>
    intro a out hc ha
    refine Ev.step (f := fun _ => some (gt b 0 a out)) (fun k => ?_) (Ev.now _)
    simp only [plain_Get.l0]
    rw [if_neg (by omega)]
    simp only [num_Reader_End.f]
    rw [w64 (by omega) (by omega)]
    by_cases h : a < b.length
    · rw [if_pos ⟨trivial, by omega⟩, Option.bind_some, if_neg (by simp), gt, if_pos h]
    · rw [if_neg (by omega), Option.bind_some, if_pos rfl, gt, if_neg h]
  | succ c ih =>
    intro a out hc ha
    refine Ev.step (f := fun k => _) (fun k => by simp only [plain_Get.l0]; rw [if_pos (by omega)]) ?_
    rcases sh_cases (b.drop a) 0 0 (drop_bytes hw a) (by omega) (by decide) with h | h | ⟨v, m, h, h1, h2, hv⟩
    · refine Ev.bind (nvar_err hw hl ha (.inl rfl) h) ⟨0, fun k _ => ?_⟩
      rw [gt, h]; simp [num_Reader_Err.f]
    · refine Ev.bind (nvar_err hw hl ha (.inr rfl) h) ⟨0, fun k _ => ?_⟩
      rw [gt, h]; simp [num_Reader_Err.f]
    · rw [List.length_drop] at h2
      refine Ev.bind (nvar_ok hw hl ha h (by omega)) ?_
      rw [gt, h]
      simp only [Int.toNat_natCast, if_true]
      refine Ev.congr (fun k => ?_) (ih (a + m) (out ++ [zag v]) (by simp; omega) (by omega))
      simp only [num_Reader_Err.f, Option.bind_some]
      rw [if_pos trivial, zag_f v hv, Option.bind_some, if_pos (by omega), w64 (by omega) (by omega)]
      congr 1
      simp
theorem pget_f {b : List Int} (hw : ∀ x ∈ b, 0 ≤ x ∧ x < 256) (hl : b.length * 1 ≤ 140737488355328) (n : Int) : Ev (fun k => plain_Get.f k b n) (getv b n) := by
  unfold plain_Get.f getv
  by_cases h0 : n < 0
  · simp only [if_pos h0]
    rw [if_pos (.inl h0)]
    exact Ev.step (f := fun _ => some ([], 1)) (fun k => by simp only [plain_Get.j0]; rw [if_pos trivial]) (Ev.now _)
  · simp only [if_neg h0]
    by_cases h1 : n > 65536
    · rw [if_pos (.inr h1), decide_eq_true h1]
      exact Ev.step (f := fun _ => some ([], 1)) (fun k => by simp only [plain_Get.j0]; rw [if_pos trivial]) (Ev.now _)
    · rw [if_neg (by omega), decide_eq_false h1]
      obtain ⟨N, rfl⟩ := Int.eq_ofNat_of_zero_le (Int.not_lt.mp h0)
      rw [Int.toNat_natCast]
      refine Ev.step (fun k => ?_) (pget_l0 hw (by omega) N (by omega) N 0 [] (by simp) (by omega))
      simp only [plain_Get.j0]
      rw [if_neg (by decide)]
      simp only [num_NewReader.f]
      rw [if_pos hl, Option.bind_some]
      rfl
def lastIs (out : List Int) (v : Int) : Prop := out.getLast? = some v
instance (out : List Int) (v : Int) : Decidable (lastIs out v) := inferInstanceAs (Decidable (_ = _))
/-- one run: how often less one, the number, the place behind; or an error -/
def rone (b : List Int) (a : Nat) : Nat × Nat × Nat × Int :=
  if (sh (b.drop a) 0 0).2.2 ≠ 0 then (0, 0, 0, (sh (b.drop a) 0 0).2.2)
  else if (sh (b.drop (a + (sh (b.drop a) 0 0).2.1.toNat)) 0 0).2.2 ≠ 0 then (0, 0, 0, (sh (b.drop (a + (sh (b.drop a) 0 0).2.1.toNat)) 0 0).2.2)
  else ((sh (b.drop a) 0 0).1.toNat, (sh (b.drop (a + (sh (b.drop a) 0 0).2.1.toNat)) 0 0).1.toNat, a + (sh (b.drop a) 0 0).2.1.toNat + (sh (b.drop (a + (sh (b.drop a) 0 0).2.1.toNat)) 0 0).2.1.toNat, 0)
def rgt (b : List Int) (N : Nat) : Nat → Nat → List Int → List Int × Int
  | 0, _, _ => ([], 0)
  | f + 1, a, out =>
    if out.length < N then
      if (rone b a).2.2.2 ≠ 0 then ([], (rone b a).2.2.2)
      else if N ≤ out.length + (rone b a).1 then ([], 5)
      else if lastIs out (zag (rone b a).2.1) then ([], 4)
      else rgt b N f (rone b a).2.2.1 (out ++ List.replicate ((rone b a).1 + 1) (zag (rone b a).2.1))
    else if a < b.length then ([], 3) else (out, 0)
theorem rd_last {out : List Int} {v : Int} (h : 0 < out.length) (hl : out.length < 9223372036854775807) : (rd out (wrap64 ((out.length : Int) - 1)) = v) ↔ lastIs out v := by
  have e : wrap64 ((out.length : Int) - 1) = ((out.length - 1 : Nat) : Int) := by rw [w64 (by omega) (by omega)]; omega
  rw [e, rd_get (by omega)]
  unfold lastIs
  rw [List.getLast?_eq_getElem?, List.getElem?_eq_getElem (by omega)]
  simp
theorem last_nil {v : Int} : ¬ lastIs [] v := by simp [lastIs]
theorem rone_cases {b : List Int} (hw : ∀ x ∈ b, 0 ≤ x ∧ x < 256) (a : Nat) (ha : a ≤ b.length) :
    (∃ x : Int, (x = 2 ∨ x = 4) ∧ sh (b.drop a) 0 0 = (0, 0, x) ∧ rone b a = (0, 0, 0, x)) ∨
    (∃ (v m : Nat) (x : Int), (x = 2 ∨ x = 4) ∧ sh (b.drop a) 0 0 = ((v : Int), (m : Int), 0) ∧ v < 18446744073709551616 ∧ a + m ≤ b.length ∧ sh (b.drop (a + m)) 0 0 = (0, 0, x) ∧ rone b a = (0, 0, 0, x)) ∨
    (∃ v m v2 m2 : Nat, sh (b.drop a) 0 0 = ((v : Int), (m : Int), 0) ∧ v < 18446744073709551616 ∧ a + m ≤ b.length ∧ sh (b.drop (a + m)) 0 0 = ((v2 : Int), (m2 : Int), 0) ∧ v2 < 18446744073709551616 ∧ a + m + m2 ≤ b.length ∧ a < a + m + m2 ∧ rone b a = (v, v2, a + m + m2, 0)) := by
  rcases sh_cases (b.drop a) 0 0 (drop_bytes hw a) (by omega) (by decide) with h | h | ⟨v, m, h, h1, h2, hv⟩
  · exact .inl ⟨2, .inl rfl, h, by unfold rone; rw [h]; rfl⟩
  · exact .inl ⟨4, .inr rfl, h, by unfold rone; rw [h]; rfl⟩
  · rw [List.length_drop] at h2
    refine .inr ?_
    rcases sh_cases (b.drop (a + m)) 0 0 (drop_bytes hw _) (by omega) (by decide) with g | g | ⟨v2, m2, g, g1, g2, gv⟩
    · exact .inl ⟨v, m, 2, .inl rfl, h, hv, by omega, g, by unfold rone; rw [h]; simp only [Int.toNat_natCast, ne_eq, not_true_eq_false, if_false]; rw [g]; rfl⟩
    · exact .inl ⟨v, m, 4, .inr rfl, h, hv, by omega, g, by unfold rone; rw [h]; simp only [Int.toNat_natCast, ne_eq, not_true_eq_false, if_false]; rw [g]; rfl⟩
    · rw [List.length_drop] at g2
      exact .inr ⟨v, m, v2, m2, h, hv, by omega, g, gv, by omega, by omega, by unfold rone; rw [h]; simp only [Int.toNat_natCast, ne_eq, not_true_eq_false, if_false]; rw [g]; simp⟩
theorem nvar_fail {b : List Int} {a : Nat} {x y : Int} (hx : x ≠ 0) : Ev (fun k => num_Reader_Var.f k b a x y) (0, (a : Int), x, y) :=
  ⟨0, fun k _ => by show num_Reader_Var.f k b a x y = _; unfold num_Reader_Var.f; rw [if_pos hx]⟩
theorem rep_snoc (v : Int) (i : Nat) (out : List Int) : out ++ List.replicate i v ++ [v] = out ++ List.replicate (i + 1) v := by rw [List.append_assoc, List.replicate_succ']
theorem nrun_l1 {b : List Int} (N : Int) (v : Int) (m a : Nat) (out : List Int) {r : List Int × Int} (ho : out.length + m < 17592186044416)
    (h : Ev (fun k => runs_Get.l0 k N (out ++ List.replicate m v) b a 0 0) r) : ∀ (d i : Nat), m = i + d → Ev (fun k => runs_Get.l1 k N (out ++ List.replicate i v) v m i b a 0 0) r := by
  intro d
  induction d with
  | zero =>
    intro i hi
    obtain rfl : m = i := by omega
    refine Ev.step (fun k => ?_) h
    simp only [runs_Get.l1]
    rw [if_neg (by omega)]
  | succ d ih =>
    intro i hi
    refine Ev.step (fun k => ?_) (ih (i + 1) (by omega))
    simp only [runs_Get.l1]
    rw [if_pos (by omega), if_pos (by simp; omega), rep_snoc, u64w_id (by omega) (by omega)]
    rfl
theorem nrget_l0 {b : List Int} (hw : ∀ x ∈ b, 0 ≤ x ∧ x < 256) (hl : b.length < 4611686018427387904) (N : Nat) (hN : N ≤ 65536) : ∀ (f a : Nat) (out : List Int), out.length ≤ N → a ≤ b.length → b.length - a < f →
    Ev (fun k => runs_Get.l0 k N out b a 0 0) (rgt b N f a out) := by
  intro f
  induction f with
  | zero => intro a out _ _ h; omega
  | succ f ih =>
    intro a out ho ha hf
    rw [rgt]
    by_cases hlt : out.length < N
    · rw [if_pos hlt]
      refine Ev.step (f := fun k => _) (fun k => by simp only [runs_Get.l0]; rw [if_pos (by omega)]) ?_
      rcases rone_cases hw a ha with ⟨x, hx, h, hr⟩ | ⟨v, m, x, hx, h, hv, h2, g, hr⟩ | ⟨v, m, v2, m2, h, hv, h2, g, gv, g2, g3, hr⟩
      · have hx0 : x ≠ 0 := by omega
        rw [hr, if_pos hx0]
        refine Ev.bind (nvar_err hw hl ha hx h) ?_
        refine Ev.bind (nvar_fail hx0) ⟨0, fun k _ => ?_⟩
        have hz := zag_f 0 (by decide)
        rw [Int.natCast_zero] at hz
        simp only [num_Reader_Err.f, Option.bind_some]
        rw [hz, Option.bind_some, if_neg hx0]
      · have hx0 : x ≠ 0 := by omega
        rw [hr, if_pos hx0]
        refine Ev.bind (nvar_ok hw hl ha h h2) ?_
        refine Ev.bind (nvar_err hw hl h2 hx g) ⟨0, fun k _ => ?_⟩
        have hz := zag_f 0 (by decide)
        rw [Int.natCast_zero] at hz
        simp only [num_Reader_Err.f, Option.bind_some]
        rw [hz, Option.bind_some, if_neg hx0]
      · rw [hr, if_neg (by simp)]
        refine Ev.bind (nvar_ok hw hl ha h h2) ?_
        refine Ev.bind (nvar_ok hw hl h2 g g2) ?_
        refine Ev.bind (a := zag v2) ⟨0, fun k _ => zag_f v2 gv⟩ ?_
        simp only [num_Reader_Err.f, Option.bind_some, if_true]
        have eu : IntKind.u64.wrap (wrap64 ((N : Int) - out.length)) = ((N - out.length : Nat) : Int) := by rw [w64 (by omega) (by omega), u64w_id (by omega) (by omega)]; omega
        rw [eu]
        by_cases h5 : N ≤ out.length + v
        · simp only [if_pos h5, if_pos (show (v : Int) ≥ ((N - out.length : Nat) : Int) by omega)]
          exact Ev.now _
        · simp only [if_neg h5, if_neg (show ¬ (v : Int) ≥ ((N - out.length : Nat) : Int) by omega)]
          have hgo : ¬ lastIs out (zag v2) → Ev (fun k => runs_Get.j2 k N out v (zag v2) b ((a + m + m2 : Nat) : Int) 0 0) (if lastIs out (zag v2) then ([], 4) else rgt b N f (a + m + m2) (out ++ List.replicate (v + 1) (zag v2))) := by
            intro h4
            rw [if_neg h4]
            refine Ev.step (f := fun k => runs_Get.l1 k N out (zag v2) ((v + 1 : Nat) : Int) 0 b ((a + m + m2 : Nat) : Int) 0 0) (fun k => by simp only [runs_Get.j2]; rw [u64w_id (by omega) (by omega)]; rfl) ?_
            have := nrun_l1 (b := b) (N : Int) (zag v2) (v + 1) (a + m + m2) out (by omega) (ih (a + m + m2) (out ++ List.replicate (v + 1) (zag v2)) (by simp; omega) g2 (by omega)) (v + 1) 0 (by omega)
            rw [List.replicate_zero, List.append_nil] at this
            exact this
          by_cases hp : out.length > 0
          · simp only [if_pos (show (out.length : Int) > 0 by omega)]
            have e1 : (0 : Int) ≤ wrap64 ((out.length : Int) - 1) := by rw [w64 (by omega) (by omega)]; omega
            have e2 : wrap64 ((out.length : Int) - 1) < (out.length : Int) := by rw [w64 (by omega) (by omega)]; omega
            simp only [if_pos e1, if_pos e2]
            by_cases h4 : lastIs out (zag v2)
            · simp only [if_pos h4, if_pos ((rd_last hp (by omega)).2 h4)]
              exact Ev.now _
            · simp only [if_neg (fun h => h4 ((rd_last hp (by omega)).1 h))]
              exact hgo h4
          · simp only [if_neg (show ¬ (out.length : Int) > 0 by omega)]
            have : out = [] := List.eq_nil_of_length_eq_zero (by omega)
            exact hgo (by rw [this]; exact last_nil)
    · rw [if_neg hlt]
      refine Ev.step (f := fun k => _) (fun k => by simp only [runs_Get.l0]; rw [if_neg (by omega)]) ⟨0, fun k _ => ?_⟩
      simp only [num_Reader_End.f]
      rw [w64 (by omega) (by omega)]
      by_cases h : a < b.length
      · rw [if_pos ⟨trivial, by omega⟩, Option.bind_some, if_neg (by simp), if_pos h]
      · rw [if_neg (by omega), Option.bind_some, if_pos rfl, if_neg h]
def rgetv (b : List Int) (n : Int) : List Int × Int := if n < 0 ∨ n > 65536 then ([], 1) else rgt b n.toNat (b.length + 1) 0 []
theorem nrget_f {b : List Int} (hw : ∀ x ∈ b, 0 ≤ x ∧ x < 256) (hl : b.length * 1 ≤ 140737488355328) (n : Int) : Ev (fun k => runs_Get.f k b n) (rgetv b n) := by
  unfold runs_Get.f rgetv
  by_cases h0 : n < 0
  · simp only [if_pos h0]
    rw [if_pos (.inl h0)]
    exact Ev.step (f := fun _ => some ([], 1)) (fun k => by simp only [runs_Get.j0]; rw [if_pos trivial]) (Ev.now _)
  · simp only [if_neg h0]
    by_cases h1 : n > 65536
    · rw [if_pos (.inr h1), decide_eq_true h1]
      exact Ev.step (f := fun _ => some ([], 1)) (fun k => by simp only [runs_Get.j0]; rw [if_pos trivial]) (Ev.now _)
    · rw [if_neg (by omega), decide_eq_false h1]
      obtain ⟨N, rfl⟩ := Int.eq_ofNat_of_zero_le (Int.not_lt.mp h0)
      rw [Int.toNat_natCast]
      refine Ev.step (fun k => ?_) (nrget_l0 hw (by omega) N (by omega) (b.length + 1) 0 [] (by simp) (by omega) (by omega))
      simp only [runs_Get.j0]
      rw [if_neg (by decide)]
      simp only [num_NewReader.f]
      rw [if_pos hl, Option.bind_some]
      rfl
def expand (rs : List (Int × Nat)) : List Int := rs.flatMap fun x => List.replicate x.2 x.1
def okr : Option Int → List (Int × Nat) → Prop
  | _, [] => True
  | p, (x, k) :: r => p ≠ some x ∧ 1 ≤ k ∧ (-9223372036854775808 ≤ x ∧ x ≤ 9223372036854775807) ∧ okr (some x) r
theorem expand_cons (x : Int) (k : Nat) (r : List (Int × Nat)) : expand ((x, k) :: r) = List.replicate k x ++ expand r := by simp [expand]
theorem runForm_cons (x : Int) (k : Nat) (r : List (Int × Nat)) : runForm ((x, k) :: r) = leb (k - 1) ++ (leb (zz x).toNat ++ runForm r) := by simp [runForm]
theorem runsOf_expand : ∀ (rs : List (Int × Nat)) (p : Option Int), okr p rs → runsOf (expand rs) = rs := by
  intro rs
  induction rs with
  | nil => intro p _; rfl
  | cons y r ih =>
    obtain ⟨x, k⟩ := y
    intro p h
    obtain ⟨_, hk, _, hr⟩ := h
    obtain ⟨k, rfl⟩ : ∃ m, k = m + 1 := ⟨k - 1, by omega⟩
    rw [expand_cons, runsOf_run x (expand r) ?_ k, ih _ hr]
    intro y l he
    cases r with
    | nil => simp [expand] at he
    | cons z r =>
      obtain ⟨z, k2⟩ := z
      obtain ⟨h1, h2, _, _⟩ := hr
      obtain ⟨k2, rfl⟩ : ∃ m, k2 = m + 1 := ⟨k2 - 1, by omega⟩
      rw [expand_cons, List.replicate_succ, List.cons_append] at he
      injection he with he _
      rintro rfl
      exact h1 (by rw [he])
theorem rgt_back {b : List Int} (hw : ∀ x ∈ b, 0 ≤ x ∧ x < 256) (N : Nat) : ∀ (f a : Nat) (out z : List Int), out.length ≤ N → a ≤ b.length → b.length - a < f → rgt b N f a out = (z, 0) →
    ∃ rs, okr out.getLast? rs ∧ z = out ++ expand rs ∧ z.length = N ∧ b.drop a = runForm rs := by
  intro f
  induction f with
  | zero => intro a out z _ _ h; omega
  | succ f ih =>
    intro a out z ho ha hf h
    rw [rgt] at h
    by_cases hlt : out.length < N
    · rw [if_pos hlt] at h
      rcases rone_cases hw a ha with ⟨x, hx, hs, hr⟩ | ⟨v, m, x, hx, hs, hv, h2, g, hr⟩ | ⟨v, m, v2, m2, hs, hv, h2, g, gv, g2, g3, hr⟩
      · have hx0 : x ≠ 0 := by omega
        rw [hr, if_pos hx0] at h
        simp only [Prod.mk.injEq] at h
        exact absurd h.2 hx0
      · have hx0 : x ≠ 0 := by omega
        rw [hr, if_pos hx0] at h
        simp only [Prod.mk.injEq] at h
        exact absurd h.2 hx0
      · rw [hr] at h
        simp only [ne_eq, not_true_eq_false, if_false] at h
        by_cases h5 : N ≤ out.length + v
        · rw [if_pos h5] at h; simp at h
        · rw [if_neg h5] at h
          by_cases h4 : lastIs out (zag v2)
          · rw [if_pos h4] at h; simp at h
          · rw [if_neg h4] at h
            obtain ⟨rs, r1, r2, r3, r4⟩ := ih (a + m + m2) _ z (by rw [List.length_append, List.length_replicate]; omega) g2 (by omega) h
            rw [List.getLast?_append, List.getLast?_replicate, if_neg (by omega)] at r1
            obtain ⟨w1, e1, e2, _, _⟩ := leb_sh (b.drop a) 0 0 v m (drop_bytes hw a) hs
            obtain ⟨w2, f1, f2, _, _⟩ := leb_sh (b.drop (a + m)) 0 0 v2 m2 (drop_bytes hw _) g
            rw [Nat.pow_zero, Nat.mul_one, Nat.zero_add] at e2 f2
            subst e2 f2
            refine ⟨(zag v2, v + 1) :: rs, ⟨h4, by omega, zag_range gv, r1⟩, by rw [r2, expand_cons, List.append_assoc], r3, ?_⟩
            rw [e1, List.drop_drop, Nat.sub_zero, f1, List.drop_drop, Nat.sub_zero, r4, runForm_cons, zz_zag, Nat.add_sub_cancel]
    · rw [if_neg hlt] at h
      by_cases h1 : a < b.length
      · rw [if_pos h1] at h; simp at h
      · rw [if_neg h1] at h
        simp only [Prod.mk.injEq, and_true] at h
        exact ⟨[], trivial, by rw [← h]; simp [expand], by rw [← h]; omega, by rw [List.drop_of_length_le (by omega)]; rfl⟩
theorem gt_back {b : List Int} (hw : ∀ x ∈ b, 0 ≤ x ∧ x < 256) : ∀ (c a : Nat) (out z : List Int), a ≤ b.length → gt b c a out = (z, 0) →
    ∃ l, z = out ++ l ∧ l.length = c ∧ b.drop a = plainOf l ∧ ∀ x ∈ l, -9223372036854775808 ≤ x ∧ x ≤ 9223372036854775807 := by
  intro c
  induction c with
  | zero =>
    intro a out z ha h
    rw [gt] at h
    by_cases h1 : a < b.length
    · rw [if_pos h1] at h; simp at h
    · rw [if_neg h1] at h
      simp only [Prod.mk.injEq, and_true] at h
      exact ⟨[], by rw [← h, List.append_nil], rfl, by rw [List.drop_of_length_le (by omega)]; rfl, fun x hx => by cases hx⟩
  | succ c ih =>
    intro a out z ha h
    rw [gt] at h
    rcases sh_cases (b.drop a) 0 0 (drop_bytes hw a) (by omega) (by decide) with hs | hs | ⟨v, m, hs, h1, h2, hv⟩
    · rw [hs] at h; simp at h
    · rw [hs] at h; simp at h
    · rw [List.length_drop] at h2
      rw [hs] at h
      simp only [if_true, Int.toNat_natCast] at h
      obtain ⟨w, e1, e2, _, _⟩ := leb_sh (b.drop a) 0 0 v m (drop_bytes hw a) hs
      rw [Nat.pow_zero, Nat.mul_one, Nat.zero_add] at e2
      subst e2
      obtain ⟨l, h3, h4, h5, h6⟩ := ih (a + m) _ z (by omega) h
      refine ⟨zag v :: l, by rw [h3, List.append_assoc]; rfl, by rw [List.length_cons, h4], ?_, ?_⟩
      · rw [e1, List.drop_drop, Nat.sub_zero, plainOf_cons, zz_zag, h5]
      · intro x hx
        rcases List.mem_cons.1 hx with rfl | hx
        · exact zag_range hv
        · exact h6 x hx
def zags (l : List Int) : List Int := l.map (fun x => zag x.toNat)
def restv (b : List Int) (a : Nat) (n : Int) : List Int × Int :=
  if h : a < b.length then
    (if b[a] > 64 then ([], 5)
    else if (unpacked (b.drop (a + 1)) n b[a]).2 = 0 then (if (maxW (unpacked (b.drop (a + 1)) n b[a]).1 : Int) = b[a] then (zags (unpacked (b.drop (a + 1)) n b[a]).1, 0) else ([], 4))
    else ([], (unpacked (b.drop (a + 1)) n b[a]).2))
  else ([], 2)
def deltav (b : List Int) (n : Int) : List Int × Int :=
  if n < 0 ∨ n > 65536 then ([], 1)
  else if n = 0 then (if 0 < b.length then ([], 3) else ([], 0))
  else if (sh b 0 0).2.2 = 0 then
    (if n = 1 then (if (sh b 0 0).2.1.toNat < b.length then ([], 3) else (sums 0 [zag (sh b 0 0).1.toNat], 0))
    else if (restv b (sh b 0 0).2.1.toNat (n - 1)).2 = 0 then (sums 0 (zag (sh b 0 0).1.toNat :: (restv b (sh b 0 0).2.1.toNat (n - 1)).1), 0)
    else ([], (restv b (sh b 0 0).2.1.toNat (n - 1)).2))
  else ([], (sh b 0 0).2.2)
theorem rest_l0 (d : List Int) (hn : d.length ≤ 65536) (hd : ∀ x ∈ d, 0 ≤ x ∧ x < 18446744073709551616) (b : List Int) (x y z : Int) : ∀ (c i : Nat), d.length = i + c → Ev (fun k => delta_rest.l0 k (zags (d.take i)) d d.length i b x y z) (zags d, 0, x, y, z) := by
  intro c
  induction c with
  | zero =>
    intro i hi
    rw [List.take_of_length_le (by omega)]
    exact Ev.step (f := fun _ => some (zags d, 0, x, y, z)) (fun k => by simp only [delta_rest.l0]; rw [if_neg (by omega)]) (Ev.now _)
  | succ c ih =>
    intro i hi
    have hlt : i < d.length := by omega
    have hx := hd _ (List.getElem_mem hlt)
    have hz : num_Zag.f d[i] = some (zag d[i].toNat) := by have := zag_f d[i].toNat (by omega); rwa [Int.toNat_of_nonneg hx.1] at this
    refine Ev.step (fun k => ?_) (ih (i + 1) (by omega))
    simp only [delta_rest.l0]
    rw [if_pos (by omega), if_pos (by omega), if_pos (by omega), rd_get hlt, hz, Option.bind_some, if_pos (by simp [zags]; omega), w64 (n := (i : Int) + 1) (by omega) (by omega), List.take_succ_eq_append_getElem hlt, zags, zags, List.map_append]
    rfl
theorem rest_f {b : List Int} (hw : ∀ x ∈ b, 0 ≤ x ∧ x < 256) (hl : b.length ≤ 140737488355328) {a : Nat} (ha : a ≤ b.length) (on n : Int) (h1 : 1 ≤ n) (h2 : n ≤ 65536) :
    ∃ A E O, Ev (fun k => delta_rest.f k b a 0 on n) ((restv b a n).1, (restv b a n).2, A, E, O) ∧ ((restv b a n).2 = 0 → A = (b.length : Int) ∧ E = 0 ∧ O = on) := by
  unfold restv
  by_cases hm : a < b.length
  · have hc := hw _ (List.getElem_mem hm)
    have hwc : wrap64 b[a] = b[a] := w64 (by omega) (by omega)
    rw [dif_pos hm]
    by_cases h64 : b[a] > 64
    · rw [if_pos h64]
      refine ⟨((a + 1 : Nat) : Int), 0, on, ?_, fun h => by simp at h⟩
      unfold delta_rest.f
      refine Ev.bind (nfix1_ok hw hl hm on) ?_
      simp only [num_Reader_Err.f, Option.bind_some, if_true, hwc, if_pos h64]
      exact Ev.now _
    · rw [if_neg h64]
      have hev : ∀ r, Ev (fun k => (bits_Unpack.f k (b.drop (a + 1)) n b[a]).bind fun bt252 => (if bt252.2 = 0 then ((bits_Width.f k bt252.1).bind fun t256 => (if t256 = b[a] then (delta_rest.l0 k ([] : List Int) bt252.1 (bt252.1.length : Int) 0 b (b.length : Int) 0 on) else (some (([] : List Int), 4, (b.length : Int), 0, on)))) else (some (([] : List Int), bt252.2, (b.length : Int), 0, on)))) r → Ev (fun k => delta_rest.f k b a 0 on n) r := by
        intro r hr
        unfold delta_rest.f
        refine Ev.bind (nfix1_ok hw hl hm on) ?_
        simp only [num_Reader_Err.f, num_Reader_Left.f, Option.bind_some, if_true, hwc, if_neg h64, nleft hl (show a + 1 ≤ b.length by omega), ntake_all hl (show a + 1 ≤ b.length by omega)]
        exact hr
      have hu := unpack_f (b.drop (a + 1)) (drop_bytes hw _) n b[a]
      by_cases h0 : (unpacked (b.drop (a + 1)) n b[a]).2 = 0
      · obtain ⟨u1, u2, u3, u4⟩ := unpacked_ok h0
        rw [if_pos h0]
        by_cases hW : (maxW (unpacked (b.drop (a + 1)) n b[a]).1 : Int) = b[a]
        · rw [if_pos hW]
          refine ⟨(b.length : Int), 0, on, hev _ (Ev.bind hu ?_), fun _ => ⟨rfl, rfl, rfl⟩⟩
          simp only [if_pos h0]
          refine Ev.bind (width_evd _ (by omega) u2) ?_
          simp only [if_pos hW]
          exact rest_l0 _ (by omega) u2 b _ _ _ _ 0 (Nat.zero_add _).symm
        · rw [if_neg hW]
          refine ⟨(b.length : Int), 0, on, hev _ (Ev.bind hu ?_), fun h => by simp at h⟩
          simp only [if_pos h0]
          refine Ev.bind (width_evd _ (by omega) u2) ?_
          simp only [if_neg hW]
          exact Ev.now _
      · rw [if_neg h0]
        refine ⟨(b.length : Int), 0, on, hev _ (Ev.bind hu ?_), fun h => absurd h h0⟩
        simp only [if_neg h0]
        exact Ev.now _
  · obtain rfl : a = b.length := by omega
    rw [dif_neg hm]
    refine ⟨(b.length : Int), 2, (b.length : Int), ?_, fun h => by simp at h⟩
    unfold delta_rest.f
    refine Ev.bind (nfix1_none (ntake_end hl on)) ?_
    simp only [num_Reader_Err.f, Option.bind_some]
    exact Ev.now _
theorem restv_len {b : List Int} {a : Nat} {n : Int} (h1 : 0 ≤ n) : ((restv b a n).1.length : Int) ≤ n := by
  unfold restv
  by_cases hm : a < b.length
  · rw [dif_pos hm]
    split
    · simpa using h1
    · split
      · rename_i h0
        obtain ⟨u1, _⟩ := unpacked_ok h0
        split
        · simp only [zags, List.length_map]; omega
        · simpa using h1
      · simpa using h1
  · rw [dif_neg hm]; simpa using h1
theorem delta_j2 {b : List Int} (hl : b.length ≤ 140737488355328) {a : Nat} (ha : a ≤ b.length) (on : Int) (l : List Int) (hn : l.length ≤ 65536) : Ev (fun k => delta_Get.j2 k l b a 0 on) (if a < b.length then ([], 3) else (sums 0 l, 0)) := by
  by_cases h : a < b.length
  · rw [if_pos h]
    refine Ev.step (f := fun _ => some ([], 3)) (fun k => ?_) (Ev.now _)
    simp only [delta_Get.j2, num_Reader_End.f, nleft hl ha]
    rw [if_pos ⟨trivial, by omega⟩, Option.bind_some, if_neg (by simp)]
  · rw [if_neg h]
    refine Ev.step (f := fun k => _) (fun k => by
      simp only [delta_Get.j2, num_Reader_End.f, nleft hl ha]
      rw [if_neg (by omega), Option.bind_some, if_pos rfl]) ?_
    exact Ev.bind (sums_f l hn) (Ev.now _)
theorem deltaget_f {b : List Int} (hw : ∀ x ∈ b, 0 ≤ x ∧ x < 256) (hl3 : b.length ≤ 1000000) (n : Int) : Ev (fun k => delta_Get.f k b n) (deltav b n) := by
  have hl2 : b.length < 4611686018427387904 := by omega
  have hl4 : b.length ≤ 140737488355328 := by omega
  have hnr : num_NewReader.f b = some (b, 0, 0, 0) := by unfold num_NewReader.f; rw [if_pos (by omega)]
  unfold deltav
  by_cases h0 : n < 0
  · rw [if_pos (.inl h0)]
    unfold delta_Get.f; simp only [if_pos h0]
    exact Ev.step (f := fun _ => some ([], 1)) (fun k => by simp only [delta_Get.j0]; rw [if_pos trivial]) (Ev.now _)
  by_cases h1 : n > 65536
  · rw [if_pos (.inr h1)]
    unfold delta_Get.f; simp only [if_neg h0, decide_eq_true h1]
    exact Ev.step (f := fun _ => some ([], 1)) (fun k => by simp only [delta_Get.j0]; rw [if_pos trivial]) (Ev.now _)
  rw [if_neg (by rintro (h | h); exact h0 h; exact h1 h)]
  unfold delta_Get.f
  simp only [if_neg h0, decide_eq_false h1]
  have one : ∀ (l : List Int) (x e on : Int) r, Ev (fun k => if e = 0 then (if n > 1 then ((delta_rest.f k b x e on (wrap64 (n - 1))).bind fun bt280 => (if bt280.2.1 = 0 then (if l.length + bt280.1.length < 17592186044416 then (delta_Get.j2 k (l ++ bt280.1) b bt280.2.2.1 bt280.2.2.2.1 bt280.2.2.2.2) else (none)) else (some (([] : List Int), bt280.2.1)))) else (delta_Get.j2 k l b x e on)) else (some (([] : List Int), e))) r → Ev (fun k => delta_Get.j1 k n l b x e on) r := by
    intro l x e on r hr
    refine Ev.step (fun k => ?_) hr
    simp only [delta_Get.j1, num_Reader_Err.f, Option.bind_some]
  by_cases hn0 : n = 0
  · subst hn0
    rw [if_pos rfl]
    refine Ev.step (f := fun k => delta_Get.j1 k 0 [] b 0 0 0) (fun k => by simp only [delta_Get.j0]; rw [if_neg (by decide), hnr, Option.bind_some, if_neg (by decide)]) ?_
    refine one _ _ _ _ _ ?_
    simp only [if_true, if_neg (show ¬ (0 : Int) > 1 by decide)]
    exact delta_j2 hl4 (Nat.zero_le _) 0 [] (Nat.zero_le _)
  rw [if_neg hn0]
  refine Ev.step (f := fun k => (num_Reader_Var.f k b 0 0 0).bind fun bt267 => ((num_Zag.f bt267.1).bind fun t271 => delta_Get.j1 k n [t271] b bt267.2.1 bt267.2.2.1 bt267.2.2.2)) (fun k => by
    simp only [delta_Get.j0]
    rw [if_neg (by decide), hnr, Option.bind_some, if_pos (by omega)]
    simp only [if_pos (show ([] : List Int).length < 17592186044416 by decide), List.nil_append]) ?_
  have z1 := zag_f 0 (by decide)
  rw [Int.natCast_zero] at z1
  have herr : ∀ x : Int, x = 2 ∨ x = 4 → sh (b.drop 0) 0 0 = (0, 0, x) → Ev (fun k => (num_Reader_Var.f k b 0 0 0).bind fun bt267 => ((num_Zag.f bt267.1).bind fun t271 => delta_Get.j1 k n [t271] b bt267.2.1 bt267.2.2.1 bt267.2.2.2)) ([], x) := by
    intro x hx hs
    have hx0 : x ≠ 0 := by omega
    refine Ev.bind (nvar_err hw hl2 (Nat.zero_le _) hx hs) ?_
    refine Ev.bind (a := zag 0) ⟨0, fun k _ => z1⟩ ?_
    refine one _ _ _ _ _ ?_
    simp only [if_neg hx0]
    exact Ev.now _
  rcases sh_cases (b.drop 0) 0 0 (drop_bytes hw 0) (by omega) (by decide) with h | h | ⟨v, m, h, g1, g2, hv⟩
  · have e := herr 2 (.inl rfl) h
    rw [List.drop_zero] at h
    rw [h, if_neg (by decide)]
    exact e
  · have e := herr 4 (.inr rfl) h
    rw [List.drop_zero] at h
    rw [h, if_neg (by decide)]
    exact e
  · have ok1 := nvar_ok (on := 0) hw hl2 (Nat.zero_le _) h (by rw [List.drop_zero] at g2; omega)
    rw [List.drop_zero, Nat.zero_add] at g2
    rw [List.drop_zero] at h
    rw [Nat.zero_add] at ok1
    refine Ev.bind ok1 ?_
    refine Ev.bind (a := zag v) ⟨0, fun k _ => zag_f v hv⟩ ?_
    rw [h]
    simp only [Int.toNat_natCast, if_true]
    refine one _ _ _ _ _ ?_
    simp only [if_true]
    by_cases hn1 : n = 1
    · subst hn1
      rw [if_pos rfl]
      simp only [if_neg (show ¬ (1 : Int) > 1 by decide)]
      exact delta_j2 hl4 g2 0 _ (by simp)
    · rw [if_neg hn1]
      have hgt : n > 1 := by omega
      simp only [if_pos hgt]
      rw [w64 (n := n - 1) (by omega) (by omega)]
      obtain ⟨A, E, O, r1, r2⟩ := rest_f hw hl4 g2 0 (n - 1) (by omega) (by omega)
      refine Ev.bind r1 ?_
      by_cases hr : (restv b m (n - 1)).2 = 0
      · obtain ⟨rfl, rfl, rfl⟩ := r2 hr
        have hlen := restv_len (b := b) (a := m) (n := n - 1) (by omega)
        simp only [if_pos hr]
        have hlt : ([zag v] : List Int).length + (restv b m (n - 1)).1.length < 17592186044416 := by simp only [List.length_singleton]; omega
        simp only [if_pos hlt]
        have := delta_j2 hl4 (Nat.le_refl b.length) 0 (zag v :: (restv b m (n - 1)).1)
        have := this (by simp only [List.length_cons]; omega)
        rw [if_neg (Nat.lt_irrefl _)] at this
        exact this
      · simp only [if_neg hr]
        exact Ev.now _
theorem lst_len (b : List Int) : ∀ (c a : Nat) (out : List Int), (lst b c a out).2.2 = 0 → (lst b c a out).1.length = out.length + c := by
  intro c
  induction c with
  | zero => intro a out _; rfl
  | succ c ih =>
    intro a out h
    rw [lst] at h ⊢
    by_cases c0 : (sh (b.drop a) 0 0).2.2 = 0
    · rw [if_pos c0] at h ⊢
      by_cases c1 : out.length = 0
      · rw [if_pos c1] at h ⊢
        rw [ih _ _ h]; simp; omega
      · rw [if_neg c1] at h ⊢
        by_cases c2 : nxt (rd out ((out.length : Int) - 1)) (sh (b.drop a) 0 0).1 ≤ rd out ((out.length : Int) - 1)
        · rw [if_pos c2] at h; cases h
        · rw [if_neg c2] at h ⊢
          rw [ih _ _ h]; simp; omega
    · rw [if_neg c0] at h; exact absurd h c0
theorem lstv_len {b : List Int} (hw : ∀ x ∈ b, 0 ≤ x ∧ x < 256) {n : Int} (h : (lstv b n).2.2 = 0) : ((lstv b n).1.length : Int) ≤ n := by
  unfold lstv at h ⊢
  rcases sh_cases b 0 0 hw (by omega) (by decide) with hs | hs | ⟨v, m, hs, g1, g2, hv⟩
  · rw [hs] at h; simp at h
  · rw [hs] at h; simp at h
  · rw [hs] at h ⊢
    simp only [if_true, Int.toNat_natCast] at h ⊢
    by_cases c : (v : Int) > n
    · rw [if_pos c] at h; simp at h
    · rw [if_neg c] at h ⊢
      rw [lst_len _ _ _ _ h]; simp; omega
def bad (least d : Int) : Prop := least + d > 9223372036854775807
instance (a b : Int) : Decidable (bad a b) := inferInstanceAs (Decidable (_ > _))
def plus (least d : Int) : Int := wrap64 (IntKind.u64.wrap (IntKind.u64.wrap least + d))
def foreEnd (least w : Int) (d : List Int) : List Int × Int := if (∃ x ∈ d, bad least x) ∨ ¬ (maxW d : Int) = w ∨ ¬ (0 ∈ d) then ([], 4) else (d.map (plus least), 0)
theorem minu_l0 (l : List Int) (hn : l.length < 9223372036854775807) : ∀ (d k i : Nat) (m : Int), l.length = i + d → d < k → slices_Min_uint64_uint64.l0 k l m i = some ((l.drop i).foldl mn m) := by
  intro d
  induction d with
  | zero =>
    intro k i m hd hk
    obtain ⟨k, rfl⟩ : ∃ m, k = m + 1 := ⟨k - 1, by omega⟩
    simp only [slices_Min_uint64_uint64.l0]
    rw [if_neg (by omega), List.drop_of_length_le (by omega)]; rfl
  | succ d ih =>
    intro k i m hd hk
    obtain ⟨k, rfl⟩ : ∃ m, k = m + 1 := ⟨k - 1, by omega⟩
    simp only [slices_Min_uint64_uint64.l0]
    have := ih k (i + 1) (mn m l[i]) (by omega) (by omega)
    simp only [Int.natCast_add, Int.natCast_one] at this
    rw [if_pos (by omega), if_pos (by omega), rd_get (by omega), w64 (by omega) (by omega), this, dropc l i (by omega), List.foldl_cons]
theorem minu_f (l : List Int) (h : l ≠ []) (hn : l.length < 9223372036854775807) : Ev (fun k => slices_Min_uint64_uint64.f k l) (minOf l) := ⟨l.length + 1, fun k hk => by
  show slices_Min_uint64_uint64.f k l = _
  cases l with
  | nil => exact absurd rfl h
  | cons x l =>
    unfold slices_Min_uint64_uint64.f
    have hlen : (x :: l).length = l.length + 1 := rfl
    rw [if_neg (by omega), if_pos (by omega)]
    have := minu_l0 (x :: l) hn l.length k 1 x (by omega) (by omega)
    exact this⟩
def maxOf : List Int → Int
  | [] => 0
  | x :: l => l.foldl mx x
theorem mx_le (x y : Int) : x ≤ mx x y ∧ y ≤ mx x y ∧ (mx x y = x ∨ mx x y = y) := by unfold mx; split <;> omega
theorem foldmx : ∀ (l : List Int) (x : Int), (l.foldl mx x = x ∨ l.foldl mx x ∈ l) ∧ x ≤ l.foldl mx x ∧ ∀ y ∈ l, y ≤ l.foldl mx x := by
  intro l
  induction l with
  | nil => intro x; exact ⟨.inl rfl, Int.le_refl _, fun y hy => by cases hy⟩
  | cons z l ih =>
    intro x
    rw [List.foldl_cons]
    obtain ⟨h1, h2, h3⟩ := ih (mx x z)
    have hm := mx_le x z
    refine ⟨?_, by omega, ?_⟩
    · rcases h1 with h | h
      · rcases hm.2.2 with e | e
        · exact .inl (by rw [h, e])
        · exact .inr (by rw [h, e]; simp)
      · exact .inr (List.mem_cons_of_mem _ h)
    · intro y hy
      rcases List.mem_cons.1 hy with rfl | hy
      · omega
      · exact h3 y hy
theorem maxu_l0 (l : List Int) (hn : l.length < 9223372036854775807) : ∀ (d k i : Nat) (m : Int), l.length = i + d → d < k → slices_Max_uint64_uint64.l0 k l m i = some ((l.drop i).foldl mx m) := by
  intro d
  induction d with
  | zero =>
    intro k i m hd hk
    obtain ⟨k, rfl⟩ : ∃ m, k = m + 1 := ⟨k - 1, by omega⟩
    simp only [slices_Max_uint64_uint64.l0]
    rw [if_neg (by omega), List.drop_of_length_le (by omega)]; rfl
  | succ d ih =>
    intro k i m hd hk
    obtain ⟨k, rfl⟩ : ∃ m, k = m + 1 := ⟨k - 1, by omega⟩
    simp only [slices_Max_uint64_uint64.l0]
    have := ih k (i + 1) (mx m l[i]) (by omega) (by omega)
    simp only [Int.natCast_add, Int.natCast_one] at this
    rw [if_pos (by omega), if_pos (by omega), rd_get (by omega), w64 (by omega) (by omega), this, dropc l i (by omega), List.foldl_cons]
theorem maxu_f (l : List Int) (h : l ≠ []) (hn : l.length < 9223372036854775807) : Ev (fun k => slices_Max_uint64_uint64.f k l) (maxOf l) := ⟨l.length + 1, fun k hk => by
  show slices_Max_uint64_uint64.f k l = _
  cases l with
  | nil => exact absurd rfl h
  | cons x l =>
    unfold slices_Max_uint64_uint64.f
    have hlen : (x :: l).length = l.length + 1 := rfl
    rw [if_neg (by omega), if_pos (by omega)]
    have := maxu_l0 (x :: l) hn l.length k 1 x (by omega) (by omega)
    exact this⟩
theorem maxOf_bad {l : List Int} (h : l ≠ []) (least : Int) : maxOf l > 9223372036854775807 - least ↔ ∃ x ∈ l, bad least x := by
  cases l with
  | nil => exact absurd rfl h
  | cons x l =>
    obtain ⟨h1, h2, h3⟩ := foldmx l x
    unfold bad
    show l.foldl mx x > _ ↔ _
    constructor
    · intro hg
      rcases h1 with e | e
      · exact ⟨x, by simp, by omega⟩
      · exact ⟨_, List.mem_cons_of_mem _ e, by omega⟩
    · rintro ⟨y, hy, hb⟩
      rcases List.mem_cons.1 hy with rfl | hy
      · omega
      · have := h3 y hy; omega
theorem minOf_zero {l : List Int} (h : l ≠ []) (hl : ∀ x ∈ l, 0 ≤ x ∧ x < 18446744073709551616) : minOf l = 0 ↔ 0 ∈ l := by
  constructor
  · intro e; rw [← e]; exact minOf_mem h
  · intro e
    have h1 := minOf_le e
    have h2 := (hl _ (minOf_mem h)).1
    omega
theorem plus_ok {least d : Int} (h1 : -9223372036854775808 ≤ least ∧ least ≤ 9223372036854775807) (hd : 0 ≤ d ∧ d < 18446744073709551616) : (bad least d → plus least d < least) ∧ (¬ bad least d → plus least d = least + d) := by
  unfold bad plus
  rw [u64w, u64w]
  constructor
  · intro h; unfold wrap64; omega
  · intro h; unfold wrap64; omega
theorem fget_l0 (least : Int) (d : List Int) (hn : d.length ≤ 65536) : ∀ (c i : Nat), d.length = i + c → Ev (fun k => fore_Get.l0 k least ((d.take i).map (plus least)) d d.length i) (d.map (plus least), 0) := by
  intro c
  induction c with
  | zero =>
    intro i hi
    rw [List.take_of_length_le (by omega)]
    exact Ev.step (f := fun _ => some (d.map (plus least), 0)) (fun k => by simp only [fore_Get.l0]; rw [if_neg (by omega)]) (Ev.now _)
  | succ c ih =>
    intro i hi
    refine Ev.step (fun k => ?_) (ih (i + 1) (by omega))
    simp only [fore_Get.l0]
    rw [if_pos (by omega), if_pos (by omega), if_pos (by omega), if_pos (by simp; omega), rd_get (by omega), w64 (n := (i : Int) + 1) (by omega) (by omega), List.take_succ_eq_append_getElem (by omega), List.map_append]
    rfl
theorem fj2_err {b : List Int} {a x y : Int} (hx : x ≠ 0) (n least w : Int) : Ev (fun k => fore_Get.j2 k n least w b a x y) ([], x) :=
  Ev.step (f := fun _ => some ([], x)) (fun k => by simp only [fore_Get.j2, num_Reader_Err.f, Option.bind_some]; rw [if_neg hx]) (Ev.now _)
theorem fj3 (least : Int) (d : List Int) (hn : d.length ≤ 65536) (F : Bool) : Ev (fun k => fore_Get.j3 k least d F) (if F = true then ([], 4) else (d.map (plus least), 0)) := by
  cases F
  · refine Ev.step (f := fun k => fore_Get.l0 k least [] d d.length 0) (fun k => by simp only [fore_Get.j3]; rw [if_neg (by decide)]) ?_
    exact fget_l0 least d hn d.length 0 (by omega)
  · exact Ev.step (f := fun _ => some ([], 4)) (fun k => by simp only [fore_Get.j3]; rw [if_pos trivial]) (Ev.now _)
theorem fj2_ok {b : List Int} (hw : ∀ x ∈ b, 0 ≤ x ∧ x < 256) (hl : b.length ≤ 140737488355328) {a : Nat} (ha : a ≤ b.length) (on n least w : Int) (h1 : 1 ≤ n) (h2 : n ≤ 65536) (hls : -9223372036854775808 ≤ least ∧ least ≤ 9223372036854775807) :
    Ev (fun k => fore_Get.j2 k n least w b a 0 on) (if (unpacked (b.drop a) n w).2 = 0 then foreEnd least w (unpacked (b.drop a) n w).1 else ([], (unpacked (b.drop a) n w).2)) := by
  have eL : wrap64 ((b.length : Int) - a) = ((b.length - a : Nat) : Int) := by rw [w64 (by omega) (by omega)]; omega
  have eT : num_Reader_Take.f b (a : Int) 0 on ((b.length - a : Nat) : Int) = some (b.drop a, (a : Int) + ((b.length - a : Nat) : Int), 0, on) := by
    unfold num_Reader_Take.f
    rw [if_pos ⟨by omega, by omega, by omega⟩, if_neg (by simp), if_neg (by omega), if_neg (by omega), Int.toNat_natCast, Int.toNat_natCast, List.take_of_length_le (by rw [List.length_drop]; exact Nat.le_refl _)]
  refine Ev.step (f := fun k => _) (fun k => by
    simp only [fore_Get.j2, num_Reader_Err.f, num_Reader_Left.f, Option.bind_some]
    rw [if_pos trivial, eL, eT, Option.bind_some]) ?_
  refine Ev.bind (unpack_f (b.drop a) (drop_bytes hw a) n w) ?_
  by_cases h0 : (unpacked (b.drop a) n w).2 = 0
  · obtain ⟨u1, u2, u3, u4⟩ := unpacked_ok h0
    simp only [if_pos h0]
    generalize (unpacked (b.drop a) n w).1 = d at u1 u2
    have hd0 : d ≠ [] := by rintro rfl; simp at u1; omega
    refine Ev.bind (width_evd d (by omega) u2) ?_
    have hmin := minu_f d hd0 (by omega)
    have hmax := maxu_f d hd0 (by omega)
    have emost : IntKind.u64.wrap (9223372036854775807 - IntKind.u64.wrap least) = 9223372036854775807 - least := by rw [u64w, u64w]; omega
    unfold foreEnd
    by_cases hW : (maxW d : Int) = w
    · simp only [if_pos hW]
      refine Ev.bind hmin ?_
      by_cases hz : minOf d = 0
      · simp only [if_pos hz]
        refine Ev.bind hmax ?_
        rw [emost]
        have hz2 := (minOf_zero hd0 u2).1 hz
        have := fj3 least d (by omega) (decide (maxOf d > 9223372036854775807 - least))
        by_cases hb : maxOf d > 9223372036854775807 - least
        · rw [decide_eq_true hb] at this ⊢
          rw [if_pos (.inl ((maxOf_bad hd0 least).1 hb))]
          exact this
        · rw [decide_eq_false hb] at this ⊢
          rw [if_neg (by rintro (h | h | h); exact hb ((maxOf_bad hd0 least).2 h); exact h hW; exact h hz2)]
          exact this
      · simp only [if_neg hz]
        rw [if_pos (.inr (.inr (fun h => hz ((minOf_zero hd0 u2).2 h))))]
        exact fj3 least d (by omega) true
    · simp only [if_neg hW]
      rw [if_pos (.inr (.inl hW))]
      exact fj3 least d (by omega) true
  · simp only [if_neg h0]
    exact Ev.now _
theorem tst_len (b : List Int) : ∀ (c a : Nat) (out : List ByteArray), (tst b c a out).2.2 = 0 → (tst b c a out).1.length = out.length + c := by
  intro c
  induction c with
  | zero => intro a out _; rfl
  | succ c ih =>
    intro a out h
    rw [tst] at h ⊢
    by_cases c0 : (blb b a).2.2 = 0
    · rw [if_pos c0] at h ⊢
      by_cases c1 : rises out (strOfNums (blb b a).1)
      · rw [if_pos c1] at h ⊢
        rw [ih _ _ h]; simp; omega
      · rw [if_neg c1] at h; cases h
    · rw [if_neg c0] at h; exact absurd h c0
theorem expand_mem : ∀ (rs : List (Int × Nat)) (p : Option Int), okr p rs → ∀ x ∈ expand rs, -9223372036854775808 ≤ x ∧ x ≤ 9223372036854775807 := by
  intro rs
  induction rs with
  | nil => intro _ _ x hx; simp [expand] at hx
  | cons y r ih =>
    obtain ⟨z, k⟩ := y
    intro p h x hx
    obtain ⟨_, _, hz, hr⟩ := h
    rw [expand_cons] at hx
    rcases List.mem_append.1 hx with h | h
    · rw [(List.mem_replicate.1 h).2]; exact hz
    · exact ih _ hr x h
theorem steps_sums : ∀ (l : List Int) (a : Int), I64 a → (∀ x ∈ l, I64 x) → steps a (sums a l) = l := by
  intro l
  induction l with
  | nil => intro a _ _; rfl
  | cons x l ih =>
    intro a ha h
    have hx := h x (by simp)
    have e : wrap64 (wrap64 (a + x) - a) = x := by unfold I64 at ha hx; unfold wrap64; omega
    rw [sums, steps, e, ih _ (wrap_i64 _) (fun y hy => h y (by simp [hy]))]
theorem sums_i64 : ∀ (l : List Int) (a : Int), ∀ x ∈ sums a l, I64 x := by
  intro l
  induction l with
  | nil => intro a x hx; cases hx
  | cons y l ih =>
    intro a x hx
    rw [sums] at hx
    rcases List.mem_cons.1 hx with rfl | hx
    · exact wrap_i64 _
    · exact ih _ x hx
theorem zz_zags : ∀ (d : List Int), (∀ x ∈ d, 0 ≤ x ∧ x < 18446744073709551616) → (zags d).map zz = d := by
  intro d
  induction d with
  | nil => intro _; rfl
  | cons x d ih =>
    intro h
    have hx := h x (by simp)
    have hv := zag_range (v := x.toNat) (by omega)
    have hz := zz_range hv.1 hv.2
    have e : zz (zag x.toNat) = x := by have := zz_zag (v := x.toNat); omega
    show zz (zag x.toNat) :: (zags d).map zz = _
    rw [e, ih (fun y hy => h y (by simp [hy]))]
theorem zags_i64 (d : List Int) (h : ∀ x ∈ d, 0 ≤ x ∧ x < 18446744073709551616) : ∀ x ∈ zags d, I64 x := by
  intro x hx
  obtain ⟨y, hy, rfl⟩ := List.mem_map.1 hx
  exact zag_range (by have := h y hy; omega)
theorem i64_0 : I64 0 := by unfold I64; omega
theorem delta_put_get {b : List Int} (hw : ∀ x ∈ b, 0 ≤ x ∧ x < 256) {n : Int} {z : List Int} (h : deltav b n = (z, 0)) :
    deltaOf z = b ∧ z.length ≤ 65536 ∧ ∀ x ∈ z, I64 x := by
  unfold deltav at h
  by_cases h0 : n < 0 ∨ n > 65536
  · rw [if_pos h0] at h; simp at h
  rw [if_neg h0] at h
  by_cases hn0 : n = 0
  · rw [if_pos hn0] at h
    by_cases hb : 0 < b.length
    · rw [if_pos hb] at h; simp at h
    · rw [if_neg hb] at h
      simp only [Prod.mk.injEq, and_true] at h
      have e : b = [] := List.eq_nil_of_length_eq_zero (by omega)
      subst h e
      exact ⟨rfl, Nat.zero_le _, fun x hx => by cases hx⟩
  rw [if_neg hn0] at h
  rcases sh_cases b 0 0 hw (by omega) (by decide) with hs | hs | ⟨v, m, hs, g1, g2, hv⟩
  · rw [hs] at h; simp at h
  · rw [hs] at h; simp at h
  · rw [hs] at h
    simp only [Int.toNat_natCast, if_true] at h
    rw [Nat.zero_add] at g2
    obtain ⟨w, f1, f2, _, _⟩ := leb_sh b 0 0 v m hw hs
    rw [Nat.pow_zero, Nat.mul_one, Nat.zero_add] at f2
    rw [Nat.sub_zero] at f1
    subst f2
    have hzr := zag_range hv
    have hfin : ∀ d : List Int, (∀ x ∈ d, 0 ≤ x ∧ x < 18446744073709551616) → z = sums 0 (zag v :: zags d) → deltaOf z = deltaForm ((v : Int) :: d) ∧ z.length = d.length + 1 ∧ ∀ x ∈ z, I64 x := by
      rintro d hd rfl
      have hall : ∀ x ∈ zag v :: zags d, I64 x := by
        intro x hx
        rcases List.mem_cons.1 hx with rfl | hx
        · exact hzr
        · exact zags_i64 d hd x hx
      refine ⟨?_, by rw [sums_length]; simp [zags], sums_i64 _ _⟩
      have e : zz (zag v) = (v : Int) := by
        have := zz_zag (v := v)
        have := (zz_range hzr.1 hzr.2).1
        omega
      unfold deltaOf
      rw [steps_sums _ 0 i64_0 hall, List.map_cons, zz_zags d hd, e]
    by_cases hn1 : n = 1
    · rw [if_pos hn1] at h
      by_cases hm : m < b.length
      · rw [if_pos hm] at h; simp at h
      · rw [if_neg hm] at h
        simp only [Prod.mk.injEq, and_true] at h
        obtain ⟨p1, p2, p3⟩ := hfin [] (fun x hx => by cases hx) h.symm
        refine ⟨?_, by rw [p2]; decide, p3⟩
        rw [p1, deltaForm, Int.toNat_natCast]
        rw [List.drop_of_length_le (by omega), List.append_nil] at f1
        exact f1.symm
    · rw [if_neg hn1] at h
      by_cases hr : (restv b m (n - 1)).2 = 0
      · rw [if_pos hr] at h
        simp only [Prod.mk.injEq, and_true] at h
        unfold restv at h hr
        by_cases hm : m < b.length
        · rw [dif_pos hm] at h hr
          by_cases h64 : b[m] > 64
          · rw [if_pos h64] at hr; simp at hr
          · rw [if_neg h64] at h hr
            by_cases hu : (unpacked (b.drop (m + 1)) (n - 1) b[m]).2 = 0
            · rw [if_pos hu] at h hr
              by_cases hW : (maxW (unpacked (b.drop (m + 1)) (n - 1) b[m]).1 : Int) = b[m]
              · rw [if_pos hW] at h
                obtain ⟨u1, u2, u3⟩ := pack_unpack (b.drop (m + 1)) (n - 1) b[m] (drop_bytes hw _) (unpacked (b.drop (m + 1)) (n - 1) b[m]).1 (by rw [← hu])
                generalize (unpacked (b.drop (m + 1)) (n - 1) b[m]).1 = d at *
                obtain ⟨p1, p2, p3⟩ := hfin d u2 h.symm
                refine ⟨?_, by omega, p3⟩
                rw [p1]
                have hd0 : d ≠ [] := by
                  rintro rfl
                  rw [List.length_nil] at u1
                  omega
                obtain ⟨y, r, rfl⟩ := List.exists_cons_of_ne_nil hd0
                rw [deltaForm, hW, u3, Int.toNat_natCast, List.append_assoc]
                conv => rhs; rw [f1, dropc b m hm]
                rfl
              · rw [if_neg hW] at hr; simp at hr
            · rw [if_neg hu] at hr; exact absurd hr hu
        · rw [dif_neg hm] at hr; simp at hr
      · rw [if_neg hr] at h
        simp only [Prod.mk.injEq] at h
        exact absurd h.2 hr
theorem nxt_eq {p v : Int} (hp : I64 p) (h0 : 0 ≤ v) (h1 : v < 18446744073709551616) : (¬ nxt p v ≤ p → nxt p v = p + v + 1 ∧ I64 (nxt p v)) ∧ (I64 (p + v + 1) → nxt p v = p + v + 1) := by
  unfold I64 at *
  unfold nxt
  rw [u64w]
  unfold wrap64
  constructor <;> intro h <;> omega
/-- what is written, from what is read -/
theorem lst_back {b : List Int} (hw : ∀ x ∈ b, 0 ≤ x ∧ x < 256) : ∀ (c a : Nat) (out : List Int) (p : Int), (out ++ [p]).Pairwise (fun x y => x < y) → (∀ x ∈ out ++ [p], I64 x) → (lst b c a (out ++ [p])).2.2 = 0 →
    ∃ r, (lst b c a (out ++ [p])).1 = out ++ [p] ++ r ∧ (out ++ [p] ++ r).Pairwise (fun x y => x < y) ∧ (∀ x ∈ out ++ [p] ++ r, I64 x) ∧ b.drop a = lebs (gaps p r) ++ b.drop (lst b c a (out ++ [p])).2.1 := by
  intro c
  induction c with
  | zero => intro a out p hs hi _; exact ⟨[], by simp [lst], by simpa using hs, by simpa using hi, by simp [lst, gaps, lebs]⟩
  | succ c ih =>
    intro a out p hs hi h
    have hlen : (out ++ [p]).length = out.length + 1 := by simp
    have hp := hi p (by simp)
    have hrd : rd (out ++ [p]) (((out ++ [p]).length : Int) - 1) = p := by
      rw [hlen, show ((out.length + 1 : Nat) : Int) - 1 = (out.length : Int) by omega, rd_nat]; simp
    rw [lst] at h ⊢
    rcases sh_cases (b.drop a) 0 0 (drop_bytes hw a) (by omega) (by decide) with hh | hh | ⟨v, m, hh, g1, g2, hv⟩
    · rw [hh] at h; simp at h
    · rw [hh] at h; simp at h
    · rw [hh] at h ⊢
      simp only [if_true, Int.toNat_natCast] at h ⊢
      rw [if_neg (by omega), hrd] at h ⊢
      by_cases hx : nxt p v ≤ p
      · rw [if_pos hx] at h; simp at h
      · rw [if_neg hx] at h ⊢
        obtain ⟨e1, e2⟩ := (nxt_eq hp (by omega) (by omega)).1 hx
        have hs2 : (out ++ [p] ++ [nxt p v]).Pairwise (fun x y => x < y) := by
          refine List.pairwise_append.2 ⟨hs, by simp, fun x hx1 y hy => ?_⟩
          simp only [List.mem_singleton] at hy
          subst hy
          rcases List.mem_append.1 hx1 with q | q
          · have := (List.pairwise_append.1 hs).2.2 x q p (by simp); omega
          · simp only [List.mem_singleton] at q; omega
        obtain ⟨r, r1, r2, r3, r4⟩ := ih (a + m) (out ++ [p]) (nxt p v) hs2 (fun x hx1 => by
          rcases List.mem_append.1 hx1 with q | q
          · exact hi x q
          · simp only [List.mem_singleton] at q; rw [q]; exact e2) h
        refine ⟨nxt p v :: r, by rw [r1]; simp, by simpa using r2, by simpa using r3, ?_⟩
        obtain ⟨w, f1, f2, _, _⟩ := leb_sh (b.drop a) 0 0 v m (drop_bytes hw a) hh
        rw [Nat.pow_zero, Nat.mul_one, Nat.zero_add] at f2
        rw [Nat.sub_zero, List.drop_drop] at f1
        rw [gaps, lebs, List.append_assoc, ← r4, show (nxt p v - p - 1).toNat = w by omega]
        exact f1
theorem lstv_back {b : List Int} (hw : ∀ x ∈ b, 0 ≤ x ∧ x < 256) {n : Int} (h : (lstv b n).2.2 = 0) :
    (lstv b n).1.Pairwise (fun x y => x < y) ∧ (∀ x ∈ (lstv b n).1, I64 x) ∧ b = leb (lstv b n).1.length ++ formOf (lstv b n).1 ++ b.drop (lstv b n).2.1 := by
  have hlen := lstv_len hw h
  unfold lstv at h hlen ⊢
  rcases sh_cases b 0 0 hw (by omega) (by decide) with hs | hs | ⟨v, m, hs, g1, g2, hv⟩
  · rw [hs] at h; simp at h
  · rw [hs] at h; simp at h
  · rw [hs] at h hlen ⊢
    simp only [if_true, Int.toNat_natCast] at h hlen ⊢
    obtain ⟨w, f1, f2, _, _⟩ := leb_sh b 0 0 v m hw hs
    rw [Nat.pow_zero, Nat.mul_one, Nat.zero_add] at f2
    rw [Nat.sub_zero] at f1
    subst f2
    by_cases c : (v : Int) > n
    · rw [if_pos c] at h; simp at h
    · rw [if_neg c] at h hlen ⊢
      have hl0 := lst_len b v m [] h
      rw [List.length_nil, Nat.zero_add] at hl0
      rw [hl0]
      cases v with
      | zero =>
        refine ⟨by simp [lst], by simp [lst], ?_⟩
        simp only [lst, formOf, List.append_nil]
        exact f1
      | succ v =>
        rw [lst] at h ⊢
        rcases sh_cases (b.drop m) 0 0 (drop_bytes hw m) (by omega) (by decide) with hh | hh | ⟨u, q, hh, p1, p2, hu⟩
        · rw [hh] at h; simp at h
        · rw [hh] at h; simp at h
        · rw [hh] at h ⊢
          simp only [if_true, Int.toNat_natCast, List.length_nil, List.nil_append] at h ⊢
          have hzr := zag_range hu
          obtain ⟨r, r1, r2, r3, r4⟩ := lst_back hw v (m + q) [] (zag u) (by simp) (fun x hx => by simp only [List.nil_append, List.mem_singleton] at hx; rw [hx]; exact hzr) (by simpa using h)
          rw [List.nil_append] at r1 r2 r3 r4
          obtain ⟨w2, k1, k2, _, _⟩ := leb_sh (b.drop m) 0 0 u q (drop_bytes hw m) hh
          rw [Nat.pow_zero, Nat.mul_one, Nat.zero_add] at k2
          rw [Nat.sub_zero, List.drop_drop] at k1
          subst k2
          rw [r1]
          refine ⟨r2, r3, ?_⟩
          show b = leb (v + 1) ++ formOf (zag u :: r) ++ _
          rw [formOf, zz_zag, List.append_assoc, List.append_assoc, ← r4, ← k1]
          exact f1
theorem picked_ok {L d z : List Int} (h : picked L d = (z, 0)) : (∀ x ∈ d, x < (L.length : Int)) ∧ (∀ j, j < L.length → (j : Int) ∈ d) ∧ z = d.map (rd L) := by
  unfold picked at h
  by_cases c : ∃ x ∈ d, x ≥ (L.length : Int)
  · rw [if_pos c] at h; simp at h
  · rw [if_neg c] at h
    by_cases c2 : ∀ j, j < L.length → (j : Int) ∈ d
    · rw [if_pos c2] at h
      simp only [Prod.mk.injEq, and_true] at h
      exact ⟨fun x hx => Int.not_le.1 (fun h => c ⟨x, hx, h⟩), c2, h.symm⟩
    · rw [if_neg c2] at h; simp at h
theorem places_back {L d : List Int} (hL : L.Pairwise (fun x y => x < y)) (h0 : ∀ x ∈ d, 0 ≤ x) (h1 : ∀ x ∈ d, x < (L.length : Int)) : places L (d.map (rd L)) = d := by
  unfold places
  rw [List.map_map]
  have : d.map ((fun x => ((L.idxOf x : Nat) : Int)) ∘ rd L) = d.map id := by
    refine List.map_congr_left (fun x hx => ?_)
    obtain ⟨j, rfl⟩ := Int.eq_ofNat_of_zero_le (h0 x hx)
    have hj : j < L.length := Int.ofNat_lt.1 (h1 _ hx)
    simp only [Function.comp, id]
    rw [rd_get hj]
    have hmem := List.getElem_mem hj
    have q1 := idx_lt hmem
    have q2 := idx_at hmem
    have : L.idxOf L[j] = j := by
      rcases Nat.lt_trichotomy (L.idxOf L[j]) j with c | c | c
      · have := lt_at hL hj c; omega
      · exact c
      · have := lt_at hL q1 c; omega
    rw [this]
  rw [this, List.map_id]
theorem dict_put_get {b : List Int} (hw : ∀ x ∈ b, 0 ≤ x ∧ x < 256) {n : Int} {z : List Int} (h : dictv b n = (z, 0)) : dictOf z = b ∧ z.length ≤ 65536 ∧ ∀ x ∈ z, I64 x := by
  unfold dictv at h
  by_cases h0 : n < 0 ∨ n > 65536
  · rw [if_pos h0] at h; simp at h
  rw [if_neg h0] at h
  by_cases hE : (lstv b n).2.2 = 0
  · rw [if_pos hE] at h
    obtain ⟨s1, s2, s3⟩ := lstv_back hw hE
    generalize lstv b n = R at *
    obtain ⟨L, A, E⟩ := R
    simp only at h s1 s2 s3 hE
    by_cases hm : A < b.length
    · rw [dif_pos hm] at h
      by_cases hc : b[A] = (wd L.length : Int)
      · rw [if_pos hc] at h
        by_cases hu : (unpacked (b.drop (A + 1)) n b[A]).2 = 0
        · rw [if_pos hu] at h
          obtain ⟨u1, u2, u3⟩ := pack_unpack (b.drop (A + 1)) n b[A] (drop_bytes hw _) (unpacked (b.drop (A + 1)) n b[A]).1 (by rw [← hu])
          generalize (unpacked (b.drop (A + 1)) n b[A]).1 = d at *
          obtain ⟨p1, p2, rfl⟩ := picked_ok h
          have hmem : ∀ x, x ∈ L ↔ x ∈ d.map (rd L) := by
            intro x
            constructor
            · intro hx
              obtain ⟨j, hj, rfl⟩ := List.getElem_of_mem hx
              exact List.mem_map.2 ⟨(j : Int), p2 j hj, rd_get hj⟩
            · intro hx
              obtain ⟨y, hy, rfl⟩ := List.mem_map.1 hx
              obtain ⟨j, rfl⟩ := Int.eq_ofNat_of_zero_le (u2 y hy).1
              have hj : j < L.length := Int.ofNat_lt.1 (p1 _ hy)
              rw [rd_get hj]; exact List.getElem_mem hj
          refine ⟨?_, by rw [List.length_map]; omega, fun x hx => s2 x ((hmem x).2 hx)⟩
          unfold dictOf
          rw [dl_eq s1 hmem, places_back s1 (fun x hx => (u2 x hx).1) p1, ← hc, u3]
          conv => rhs; rw [s3, dropc b A hm]
          simp
        · rw [if_neg hu] at h
          simp only [Prod.mk.injEq] at h
          exact absurd h.2 hu
      · rw [if_neg hc] at h; simp at h
    · rw [dif_neg hm] at h; simp at h
  · rw [if_neg hE] at h
    simp only [Prod.mk.injEq] at h
    exact absurd h.2 hE
def forev (b : List Int) (n : Int) : List Int × Int :=
  if n < 0 ∨ n > 65536 then ([], 1)
  else if n = 0 then (if 0 < b.length then ([], 3) else ([], 0))
  else if (sh b 0 0).2.2 ≠ 0 then ([], (sh b 0 0).2.2)
  else if h : (sh b 0 0).2.1.toNat < b.length then
    (if b[(sh b 0 0).2.1.toNat] > 64 then ([], 5)
    else if (unpacked (b.drop ((sh b 0 0).2.1.toNat + 1)) n b[(sh b 0 0).2.1.toNat]).2 = 0 then foreEnd (zag (sh b 0 0).1.toNat) b[(sh b 0 0).2.1.toNat] (unpacked (b.drop ((sh b 0 0).2.1.toNat + 1)) n b[(sh b 0 0).2.1.toNat]).1
    else ([], (unpacked (b.drop ((sh b 0 0).2.1.toNat + 1)) n b[(sh b 0 0).2.1.toNat]).2))
  else ([], 2)
theorem fore_f {b : List Int} (hw : ∀ x ∈ b, 0 ≤ x ∧ x < 256) (hl3 : b.length ≤ 1000000) (n : Int) : Ev (fun k => fore_Get.f k b n) (forev b n) := by
  unfold forev
  by_cases h0 : n < 0
  · rw [if_pos (.inl h0)]
    unfold fore_Get.f; simp only [if_pos h0]
    exact Ev.step (f := fun _ => some ([], 1)) (fun k => by simp only [fore_Get.j0]; rw [if_pos trivial]) (Ev.now _)
  by_cases h1 : n > 65536
  · rw [if_pos (.inr h1)]
    unfold fore_Get.f; simp only [if_neg h0, decide_eq_true h1]
    exact Ev.step (f := fun _ => some ([], 1)) (fun k => by simp only [fore_Get.j0]; rw [if_pos trivial]) (Ev.now _)
  rw [if_neg (by rintro (h | h); exact h0 h; exact h1 h)]
  unfold fore_Get.f
  simp only [if_neg h0, decide_eq_false h1]
  by_cases hn0 : n = 0
  · subst hn0
    rw [if_pos rfl]
    by_cases hb : 0 < b.length
    · rw [if_pos hb]
      refine Ev.step (f := fun k => fore_Get.j1 k b 0 true) (fun k => by simp only [fore_Get.j0]; rw [if_neg (by decide), if_pos trivial, decide_eq_true (by omega)]) ?_
      exact Ev.step (f := fun _ => some ([], 3)) (fun k => by simp only [fore_Get.j1]; rw [if_pos trivial]) (Ev.now _)
    · rw [if_neg hb]
      refine Ev.step (f := fun k => fore_Get.j1 k b 0 false) (fun k => by simp only [fore_Get.j0]; rw [if_neg (by decide), if_pos trivial, decide_eq_false (by omega)]) ?_
      exact Ev.step (f := fun _ => some ([], 0)) (fun k => by simp only [fore_Get.j1]; rw [if_neg (by decide), if_pos trivial]) (Ev.now _)
  rw [if_neg hn0]
  have hl2 : b.length < 4611686018427387904 := by omega
  have hl4 : b.length ≤ 140737488355328 := by omega
  have hnr : num_NewReader.f b = some (b, 0, 0, 0) := by unfold num_NewReader.f; rw [if_pos (by omega)]
  refine Ev.step (f := fun k => fore_Get.j1 k b n false) (fun k => by simp only [fore_Get.j0]; rw [if_neg (by decide), if_neg hn0]) ?_
  refine Ev.step (f := fun k => _) (fun k => by simp only [fore_Get.j1]; rw [if_neg (by decide), if_neg hn0, hnr, Option.bind_some]) ?_
  have z1 := zag_f 0 (by decide)
  rw [Int.natCast_zero] at z1
  rcases sh_cases (b.drop 0) 0 0 (drop_bytes hw 0) (by omega) (by decide) with h | h | ⟨v, m, h, g1, g2, hv⟩
  · refine Ev.bind (nvar_err hw hl2 (Nat.zero_le _) (.inl rfl) h) ?_
    rw [List.drop_zero] at h
    rw [h, if_pos (by simp)]
    refine Ev.bind (a := zag 0) ⟨0, fun k _ => z1⟩ ?_
    refine Ev.bind (nfix1_none (ntake_none hl4 (Nat.zero_le _) (x := 2) (y := ((0 : Nat) : Int)) (by decide))) ?_
    rw [w64 (n := 0) (by omega) (by omega)]
    simp only [if_neg (show ¬ (0 : Int) > 64 by omega)]
    exact fj2_err (x := (2 : Int)) (by omega) n _ 0
  · refine Ev.bind (nvar_err hw hl2 (Nat.zero_le _) (.inr rfl) h) ?_
    rw [List.drop_zero] at h
    rw [h, if_pos (by simp)]
    refine Ev.bind (a := zag 0) ⟨0, fun k _ => z1⟩ ?_
    refine Ev.bind (nfix1_none (ntake_none hl4 (Nat.zero_le _) (x := 4) (y := ((0 : Nat) : Int)) (by decide))) ?_
    rw [w64 (n := 0) (by omega) (by omega)]
    simp only [if_neg (show ¬ (0 : Int) > 64 by omega)]
    exact fj2_err (x := (4 : Int)) (by omega) n _ 0
  · have ok1 := nvar_ok (on := 0) hw hl2 (Nat.zero_le _) h (by rw [List.drop_zero] at g2; omega)
    rw [List.drop_zero, Nat.zero_add] at g2
    rw [List.drop_zero] at h
    rw [Nat.zero_add] at ok1
    refine Ev.bind ok1 ?_
    refine Ev.bind (a := zag v) ⟨0, fun k _ => zag_f v hv⟩ ?_
    rw [h]
    simp only [Int.toNat_natCast, ne_eq, not_true_eq_false, if_false]
    by_cases hm : m < b.length
    · have hc := hw _ (List.getElem_mem hm)
      have hwc : wrap64 b[m] = b[m] := w64 (by omega) (by omega)
      rw [dif_pos hm]
      refine Ev.bind (nfix1_ok hw hl4 hm 0) ?_
      by_cases h64 : b[m] > 64
      · rw [if_pos h64]
        simp only [hwc, if_pos h64, num_Reader_Fail.f, num_Reader_Fail.next, Option.bind_some]
        rw [if_pos ⟨trivial, by decide⟩]
        exact fj2_err (x := (5 : Int)) (by omega) n _ _
      · rw [if_neg h64]
        simp only [hwc, if_neg h64]
        exact fj2_ok hw hl4 (by omega) 0 n (zag v) b[m] (by omega) (by omega) (zag_range hv)
    · obtain rfl : m = b.length := by omega
      rw [dif_neg hm]
      refine Ev.bind (nfix1_none (ntake_end hl4 0)) ?_
      rw [w64 (n := 0) (by omega) (by omega)]
      simp only [if_neg (show ¬ (0 : Int) > 64 by omega)]
      exact fj2_err (x := (2 : Int)) (by omega) n _ 0
theorem above_eq {m : Int} {l : List Int} (hl : ∀ x ∈ l, -9223372036854775808 ≤ x ∧ x ≤ 9223372036854775807) (hm : -9223372036854775808 ≤ m ∧ ∀ x ∈ l, m ≤ x) : above m l = l.map (fun x => x - m) := by
  unfold above
  refine List.map_congr_left (fun x hx => ?_)
  have h1 := hl x hx
  have h2 := hm.2 x hx
  rw [u64w, u64w, u64w]; omega
theorem foreEnd_back {least w : Int} {d z : List Int} (hls : -9223372036854775808 ≤ least ∧ least ≤ 9223372036854775807) (hd : ∀ x ∈ d, 0 ≤ x ∧ x < 18446744073709551616) (h : foreEnd least w d = (z, 0)) :
    z ≠ [] ∧ minOf z = least ∧ above least z = d ∧ (maxW d : Int) = w ∧ (∀ x ∈ z, -9223372036854775808 ≤ x ∧ x ≤ 9223372036854775807) ∧ z.length = d.length := by
  unfold foreEnd at h
  by_cases hc : (∃ x ∈ d, bad least x) ∨ ¬ (maxW d : Int) = w ∨ ¬ (0 ∈ d)
  · rw [if_pos hc] at h; simp at h
  · rw [if_neg hc] at h
    simp only [Prod.mk.injEq, and_true] at h
    have hb : ∀ x ∈ d, ¬ bad least x := fun x hx hb => hc (.inl ⟨x, hx, hb⟩)
    have hW : (maxW d : Int) = w := Decidable.not_not.1 (fun h => hc (.inr (.inl h)))
    have h0 : 0 ∈ d := Decidable.not_not.1 (fun h => hc (.inr (.inr h)))
    have hp : ∀ x ∈ d, plus least x = least + x := fun x hx => (plus_ok hls (hd x hx)).2 (hb x hx)
    have hz : z = d.map (fun x => least + x) := by rw [← h]; exact List.map_congr_left hp
    have hzr : ∀ x ∈ z, (-9223372036854775808 ≤ x ∧ x ≤ 9223372036854775807) ∧ least ≤ x := by
      intro x hx
      rw [hz] at hx
      obtain ⟨y, hy, rfl⟩ := List.mem_map.1 hx
      have h1 := hd y hy
      have h2 := hb y hy
      unfold bad at h2
      omega
    have hmem : least ∈ z := by rw [hz]; exact List.mem_map.2 ⟨0, h0, by omega⟩
    have hne : z ≠ [] := fun e => by rw [e] at hmem; cases hmem
    have hmin : minOf z = least := by
      have h1 := minOf_le hmem
      have h2 := (hzr _ (minOf_mem hne)).2
      omega
    refine ⟨hne, hmin, ?_, hW, fun x hx => (hzr x hx).1, by rw [hz, List.length_map]⟩
    rw [above_eq (fun x hx => (hzr x hx).1) ⟨hls.1, fun x hx => (hzr x hx).2⟩, hz, List.map_map]
    have : d.map ((fun x => x - least) ∘ fun x => least + x) = d.map id := by
      refine List.map_congr_left (fun x _ => ?_)
      simp only [Function.comp, id]; omega
    rw [this, List.map_id]
theorem fore_put_get {b : List Int} (hw : ∀ x ∈ b, 0 ≤ x ∧ x < 256) {n : Int} {z : List Int} (h : forev b n = (z, 0)) :
    foreOf z = b ∧ z.length ≤ 65536 ∧ ∀ x ∈ z, -9223372036854775808 ≤ x ∧ x ≤ 9223372036854775807 := by
  unfold forev at h
  by_cases h0 : n < 0 ∨ n > 65536
  · rw [if_pos h0] at h; simp at h
  rw [if_neg h0] at h
  by_cases hn0 : n = 0
  · rw [if_pos hn0] at h
    by_cases hb : 0 < b.length
    · rw [if_pos hb] at h; simp at h
    · rw [if_neg hb] at h
      simp only [Prod.mk.injEq, and_true] at h
      have e : b = [] := List.eq_nil_of_length_eq_zero (by omega)
      subst h e
      exact ⟨rfl, Nat.zero_le _, fun x hx => by cases hx⟩
  rw [if_neg hn0] at h
  rcases sh_cases b 0 0 hw (by omega) (by decide) with hs | hs | ⟨v, m, hs, g1, g2, hv⟩
  · rw [hs] at h; simp at h
  · rw [hs] at h; simp at h
  · rw [hs] at h
    simp only [Int.toNat_natCast, ne_eq, not_true_eq_false, if_false] at h
    by_cases hm : m < b.length
    · rw [dif_pos hm] at h
      by_cases h64 : b[m] > 64
      · rw [if_pos h64] at h; simp at h
      · rw [if_neg h64] at h
        by_cases hu : (unpacked (b.drop (m + 1)) n b[m]).2 = 0
        · rw [if_pos hu] at h
          obtain ⟨u1, u2, u3⟩ := pack_unpack (b.drop (m + 1)) n b[m] (drop_bytes hw _) (unpacked (b.drop (m + 1)) n b[m]).1 (by rw [← hu])
          obtain ⟨e1, e2, e3, e4, e5, e6⟩ := foreEnd_back (zag_range hv) u2 h
          obtain ⟨w, f1, f2, _, _⟩ := leb_sh b 0 0 v m hw hs
          rw [Nat.pow_zero, Nat.mul_one, Nat.zero_add] at f2
          subst f2
          refine ⟨?_, by omega, e5⟩
          unfold foreOf
          rw [if_neg e1, e2, e3, e4, u3, zz_zag, List.append_assoc]
          conv => rhs; rw [f1, Nat.sub_zero, dropc b m hm]
          rfl
        · rw [if_neg hu] at h
          simp only [Prod.mk.injEq] at h
          exact absurd h.2 hu
    · rw [dif_neg hm] at h; simp at h
theorem bs_sn {p : List Int} (hp : ∀ x ∈ p, 0 ≤ x ∧ x < 256) : num_PutBlobS.bs (strOfNums p) = p := by
  unfold num_PutBlobS.bs
  rw [strOfNums_data, List.map_map]
  have : p.map ((fun b : UInt8 => (b.toNat : Int)) ∘ fun n : Int => UInt8.ofNat n.toNat) = p.map id := List.map_congr_left (fun x hx => by
    have h := hp x hx
    simp only [Function.comp, id]
    rw [UInt8.toNat_ofNat']; omega)
  rw [this, List.map_id]
theorem asc_app {out : List ByteArray} {s : ByteArray} (hs : Asc out) (hr : rises out s) : Asc (out ++ [s]) := by
  refine List.pairwise_append.2 ⟨hs, List.pairwise_singleton _ _, fun x hx y hy => ?_⟩
  rw [List.mem_singleton] at hy
  subst hy
  obtain ⟨i, hi, rfl⟩ := List.getElem_of_mem hx
  obtain ⟨hl, h⟩ := rises_cons (show ¬ out.length = 0 by omega) y
  have hlast : LT out[out.length - 1] y := h.1 hr
  by_cases c : i = out.length - 1
  · subst c; exact hlast
  · exact (asc_at hs hl (by omega)).trans hlast
/-- what is written, from what is read -/
theorem blb_back {b : List Int} (hw : ∀ x ∈ b, 0 ≤ x ∧ x < 256) (a : Nat) (h : (blb b a).2.2 = 0) : (strOfNums (blb b a).1).size ≤ 65536 ∧ b.drop a = blob (strOfNums (blb b a).1) ++ b.drop (blb b a).2.1 := by
  unfold blb at h ⊢
  rcases sh_cases (b.drop a) 0 0 (drop_bytes hw a) (by omega) (by decide) with hh | hh | ⟨v, m, hh, g1, g2, hv⟩
  · rw [hh] at h; simp at h
  · rw [hh] at h; simp at h
  · rw [List.length_drop] at g2
    obtain ⟨w, f1, f2, _, _⟩ := leb_sh (b.drop a) 0 0 v m (drop_bytes hw a) hh
    rw [Nat.pow_zero, Nat.mul_one, Nat.zero_add] at f2
    rw [Nat.sub_zero, List.drop_drop] at f1
    subst f2
    rw [hh] at h ⊢
    simp only [if_true, Int.toNat_natCast] at h ⊢
    by_cases c : 65536 < v
    · rw [if_pos c] at h; simp at h
    · rw [if_neg c] at h ⊢
      by_cases c2 : b.length - a - m < v
      · rw [if_pos c2] at h; simp at h
      · rw [if_neg c2]
        have hpl : ((b.drop (a + m)).take v).length = v := by rw [List.length_take, List.length_drop]; omega
        refine ⟨by rw [strOfNums_size, hpl]; omega, ?_⟩
        show b.drop a = blob (strOfNums ((b.drop (a + m)).take v)) ++ b.drop (a + m + v)
        unfold blob
        rw [strOfNums_size, hpl, bs_sn (fun x hx => drop_bytes hw (a + m) x (List.mem_of_mem_take hx)), List.append_assoc, show b.drop (a + m + v) = (b.drop (a + m)).drop v from by rw [List.drop_drop], List.take_append_drop]
        exact f1
theorem tst_back {b : List Int} (hw : ∀ x ∈ b, 0 ≤ x ∧ x < 256) : ∀ (c a : Nat) (out : List ByteArray), Asc out → (tst b c a out).2.2 = 0 →
    ∃ r, (tst b c a out).1 = out ++ r ∧ Asc (out ++ r) ∧ (∀ s ∈ r, s.size ≤ 65536) ∧ b.drop a = blobs r ++ b.drop (tst b c a out).2.1 := by
  intro c
  induction c with
  | zero => intro a out hs _; exact ⟨[], by simp [tst], by simpa using hs, by simp, by simp [tst, blobs]⟩
  | succ c ih =>
    intro a out hs h
    rw [tst] at h ⊢
    by_cases c0 : (blb b a).2.2 = 0
    · obtain ⟨z1, z2⟩ := blb_back hw a c0
      rw [if_pos c0] at h ⊢
      generalize blb b a = B at *
      obtain ⟨p, A, e⟩ := B
      simp only at h z1 z2 ⊢
      by_cases c1 : rises out (strOfNums p)
      · rw [if_pos c1] at h ⊢
        obtain ⟨r, r1, r2, r3, r4⟩ := ih A (out ++ [strOfNums p]) (asc_app hs c1) h
        refine ⟨strOfNums p :: r, by rw [r1]; simp, by simpa using r2, fun s hs => ?_, ?_⟩
        · rcases List.mem_cons.1 hs with rfl | hs
          · exact z1
          · exact r3 s hs
        · rw [blobs, List.append_assoc, ← r4]; exact z2
      · rw [if_neg c1] at h; simp at h
    · rw [if_neg c0] at h; exact absurd h c0
theorem tsv_back {b : List Int} (hw : ∀ x ∈ b, 0 ≤ x ∧ x < 256) {n : Int} (h : (tsv b n).2.2 = 0) :
    Asc (tsv b n).1 ∧ (∀ x ∈ (tsv b n).1, x.size ≤ 65536) ∧ b = leb (tsv b n).1.length ++ blobs (tsv b n).1 ++ b.drop (tsv b n).2.1 := by
  unfold tsv at h ⊢
  rcases sh_cases b 0 0 hw (by omega) (by decide) with hs | hs | ⟨v, m, hs, g1, g2, hv⟩
  · rw [hs] at h; simp at h
  · rw [hs] at h; simp at h
  · rw [hs] at h ⊢
    simp only [if_true, Int.toNat_natCast] at h ⊢
    obtain ⟨w, f1, f2, _, _⟩ := leb_sh b 0 0 v m hw hs
    rw [Nat.pow_zero, Nat.mul_one, Nat.zero_add] at f2
    rw [Nat.sub_zero] at f1
    subst f2
    by_cases c : (v : Int) > n
    · rw [if_pos c] at h; simp at h
    · rw [if_neg c] at h ⊢
      have hl0 := tst_len b v m [] h
      rw [List.length_nil, Nat.zero_add] at hl0
      obtain ⟨r, r1, r2, r3, r4⟩ := tst_back hw v m [] List.Pairwise.nil h
      rw [List.nil_append] at r1 r2
      rw [hl0, r1]
      refine ⟨r2, r3, ?_⟩
      rw [List.append_assoc, ← r4]
      exact f1
theorem tpicked_ok {L z : List ByteArray} {d : List Int} (h : tpicked L d = (z, 0)) : (∀ x ∈ d, x < (L.length : Int)) ∧ (∀ j, j < L.length → (j : Int) ∈ d) ∧ z = d.map (rdOf ByteArray.empty L) := by
  unfold tpicked at h
  by_cases c : ∃ x ∈ d, x ≥ (L.length : Int)
  · rw [if_pos c] at h; simp at h
  · rw [if_neg c] at h
    by_cases c2 : ∀ j, j < L.length → (j : Int) ∈ d
    · rw [if_pos c2] at h
      simp only [Prod.mk.injEq, and_true] at h
      exact ⟨fun x hx => Int.not_le.1 (fun h => c ⟨x, hx, h⟩), c2, h.symm⟩
    · rw [if_neg c2] at h; simp at h
theorem tplaces_back {L : List ByteArray} {d : List Int} (hL : Asc L) (h0 : ∀ x ∈ d, 0 ≤ x) (h1 : ∀ x ∈ d, x < (L.length : Int)) : tplaces L (d.map (rdOf ByteArray.empty L)) = d := by
  unfold tplaces
  rw [List.map_map]
  have : d.map ((fun s => (((pl s L).1 : Nat) : Int)) ∘ rdOf ByteArray.empty L) = d.map id := by
    refine List.map_congr_left (fun x hx => ?_)
    obtain ⟨j, rfl⟩ := Int.eq_ofNat_of_zero_le (h0 x hx)
    have hj : j < L.length := Int.ofNat_lt.1 (h1 _ hx)
    simp only [Function.comp, id]
    rw [rdo_get hj]
    obtain ⟨q1, q2⟩ := pl_get hL (List.getElem_mem hj)
    rw [asc_inj hL q1 hj q2]
  rw [this, List.map_id]
theorem text_put_get {b : List Int} (hw : ∀ x ∈ b, 0 ≤ x ∧ x < 256) {n : Int} {z : List ByteArray} (h : textv b n = (z, 0)) : textOf z = b ∧ z.length ≤ 65536 ∧ ∀ x ∈ z, x.size ≤ 65536 := by
  unfold textv at h
  by_cases h0 : n < 0 ∨ n > 65536
  · rw [if_pos h0] at h; simp at h
  rw [if_neg h0] at h
  by_cases hE : (tsv b n).2.2 = 0
  · rw [if_pos hE] at h
    obtain ⟨s1, s2, s3⟩ := tsv_back hw hE
    generalize tsv b n = R at *
    obtain ⟨L, A, E⟩ := R
    simp only at h s1 s2 s3 hE
    by_cases hm : A < b.length
    · rw [dif_pos hm] at h
      by_cases hc : b[A] = (wd L.length : Int)
      · rw [if_pos hc] at h
        by_cases hu : (unpacked (b.drop (A + 1)) n b[A]).2 = 0
        · rw [if_pos hu] at h
          obtain ⟨u1, u2, u3⟩ := pack_unpack (b.drop (A + 1)) n b[A] (drop_bytes hw _) (unpacked (b.drop (A + 1)) n b[A]).1 (by rw [← hu])
          generalize (unpacked (b.drop (A + 1)) n b[A]).1 = d at *
          obtain ⟨p1, p2, rfl⟩ := tpicked_ok h
          have hmem : ∀ x, x ∈ L ↔ x ∈ d.map (rdOf ByteArray.empty L) := by
            intro x
            constructor
            · intro hx
              obtain ⟨j, hj, rfl⟩ := List.getElem_of_mem hx
              exact List.mem_map.2 ⟨(j : Int), p2 j hj, rdo_get hj⟩
            · intro hx
              obtain ⟨y, hy, rfl⟩ := List.mem_map.1 hx
              obtain ⟨j, rfl⟩ := Int.eq_ofNat_of_zero_le (u2 y hy).1
              have hj : j < L.length := Int.ofNat_lt.1 (p1 _ hy)
              rw [rdo_get hj]; exact List.getElem_mem hj
          refine ⟨?_, by rw [List.length_map]; omega, fun x hx => s2 x ((hmem x).2 hx)⟩
          unfold textOf
          rw [tl_eq s1 hmem, tplaces_back s1 (fun x hx => (u2 x hx).1) p1, ← hc, u3]
          conv => rhs; rw [s3, dropc b A hm]
          simp
        · rw [if_neg hu] at h
          simp only [Prod.mk.injEq] at h
          exact absurd h.2 hu
      · rw [if_neg hc] at h; simp at h
    · rw [dif_neg hm] at h; simp at h
  · rw [if_neg hE] at h
    simp only [Prod.mk.injEq] at h
    exact absurd h.2 hE
theorem picked_len {L d z : List Int} (h : picked L d = (z, 0)) : z.length = d.length := by
  unfold picked at h
  split at h
  · simp at h
  · split at h
    · injection h with h _; rw [← h, List.length_map]
    · simp at h
theorem tpicked_len {L z : List ByteArray} {d : List Int} (h : tpicked L d = (z, 0)) : z.length = d.length := by
  unfold tpicked at h
  split at h
  · simp at h
  · split at h
    · injection h with h _; rw [← h, List.length_map]
    · simp at h
theorem dict_len {b z : List Int} {n : Int} (h : dictv b n = (z, 0)) : (z.length : Int) = n := by
  unfold dictv at h
  split at h
  · simp at h
  split at h
  case isFalse hE => injection h with _ h; exact absurd h hE
  split at h
  case isFalse => simp at h
  split at h
  case isFalse => simp at h
  split at h
  case isFalse hu => injection h with _ h; exact absurd h hu
  case isTrue hu => rw [picked_len h]; exact (unpacked_ok hu).1
theorem text_len {b : List Int} {z : List ByteArray} {n : Int} (h : textv b n = (z, 0)) : (z.length : Int) = n := by
  unfold textv at h
  split at h
  · simp at h
  split at h
  case isFalse hE => injection h with _ h; exact absurd h hE
  split at h
  case isFalse => simp at h
  split at h
  case isFalse => simp at h
  split at h
  case isFalse hu => injection h with _ h; exact absurd h hu
  case isTrue hu => rw [tpicked_len h]; exact (unpacked_ok hu).1
theorem fore_len {b z : List Int} {n : Int} (h : forev b n = (z, 0)) : (z.length : Int) = n := by
  unfold forev at h
  split at h
  · simp at h
  split at h
  case isTrue h0 =>
    split at h
    · simp at h
    · injection h with h _; rw [← h, h0]; rfl
  split at h
  case isTrue hE => injection h with _ h; exact absurd h hE
  split at h
  case isFalse => simp at h
  split at h
  · simp at h
  split at h
  case isFalse hu => injection h with _ h; exact absurd h hu
  case isTrue hu =>
    unfold foreEnd at h
    split at h
    · simp at h
    · injection h with h _; rw [← h, List.length_map]; exact (unpacked_ok hu).1
theorem rest_len {b z : List Int} {a : Nat} {n : Int} (h : restv b a n = (z, 0)) : (z.length : Int) = n := by
  unfold restv at h
  split at h
  case isFalse => simp at h
  split at h
  · simp at h
  split at h
  case isFalse hu => injection h with _ h; exact absurd h hu
  case isTrue hu =>
    split at h
    · injection h with h _; rw [← h]; unfold zags; rw [List.length_map]; exact (unpacked_ok hu).1
    · simp at h
theorem delta_len {b z : List Int} {n : Int} (h : deltav b n = (z, 0)) : (z.length : Int) = n := by
  unfold deltav at h
  split at h
  · simp at h
  split at h
  case isTrue h0 =>
    split at h
    · simp at h
    · injection h with h _; rw [← h, h0]; rfl
  split at h
  case isFalse hE => injection h with _ h; exact absurd h hE
  split at h
  case isTrue h1 =>
    split at h
    · simp at h
    · injection h with h _; rw [← h, sums_length, h1]; rfl
  split at h
  case isFalse hu => injection h with _ h; exact absurd h hu
  case isTrue hu =>
    injection h with h _
    have hr := rest_len (show restv b (sh b 0 0).2.1.toNat (n - 1) = ((restv b (sh b 0 0).2.1.toNat (n - 1)).1, 0) from by rw [← hu])
    rw [← h, sums_length, List.length_cons]
    omega
theorem plain_put_get {b z : List Int} (hw : ∀ x ∈ b, 0 ≤ x ∧ x < 256) {n : Int} (h : getv b n = (z, 0)) : plainOf z = b ∧ (z.length : Int) = n ∧ ∀ x ∈ z, -9223372036854775808 ≤ x ∧ x ≤ 9223372036854775807 := by
  unfold getv at h
  split at h
  · simp at h
  rename_i h0
  obtain ⟨l, h1, h2, h3, h4⟩ := gt_back hw n.toNat 0 [] z (Nat.zero_le _) h
  rw [List.nil_append] at h1
  subst h1
  rw [List.drop_zero] at h3
  exact ⟨h3.symm, by omega, h4⟩
theorem runs_put_get {b z : List Int} (hw : ∀ x ∈ b, 0 ≤ x ∧ x < 256) {n : Int} (h : rgetv b n = (z, 0)) : runForm (runsOf z) = b ∧ (z.length : Int) = n ∧ ∀ x ∈ z, -9223372036854775808 ≤ x ∧ x ≤ 9223372036854775807 := by
  unfold rgetv at h
  split at h
  · simp at h
  rename_i h0
  obtain ⟨rs, r1, r2, r3, r4⟩ := rgt_back hw n.toNat (b.length + 1) 0 [] z (Nat.zero_le _) (by omega) (by omega) h
  rw [List.nil_append] at r2
  rw [List.drop_zero] at r4
  refine ⟨?_, by omega, ?_⟩
  · rw [r2, runsOf_expand rs _ r1]; exact r4.symm
  · rw [r2]; exact expand_mem rs _ r1
end Go.Proofs.YtehbkhddbdgbcaaGreatDoor.Pure
