/- What reading comes to, in plain words. -/
import Derived.Test.YtehbkhddbdgbcaaGreatDoorChPa
import Derived.Test.YtehbkhddbdgbcaaGreatDoorPChunkBackx14
namespace Go.Proofs.YtehbkhddbdgbcaaGreatDoor.Pure
open Go.RowKit Go.Proofs.YtehbkhddbdgbcaaGreatDoor.PChunkBack Go.Proofs.YtehbkhddbdgbcaaGreatDoorW.PrintWords Go.Proofs.YtehbkhddbdgbcaaGreatDoorW.PrintLast Go.Proofs.YtehbkhddbdgbcaaGreatDoorW.PrintMore
set_option linter.unusedVariables false
set_option linter.unusedSimpArgs false
theorem nfix1_ok {b : List Int} (hw : ∀ x ∈ b, 0 ≤ x ∧ x < 256) (hl : b.length ≤ 140737488355328) {a : Nat} (ha : a < b.length) (on : Int) : Ev (fun k => num_Reader_Fix.f k b a 0 on 1) (b[a], ((a + 1 : Nat) : Int), 0, on) := by
  have hc := hw _ (List.getElem_mem ha)
  have ht : num_Reader_Take.f b (a : Int) 0 on 1 = some ([b[a]], ((a + 1 : Nat) : Int), 0, on) := by
    unfold num_Reader_Take.f
    rw [if_pos ⟨by omega, by omega, by omega⟩, if_neg (by simp), if_neg (by omega), if_neg (by omega), Int.toNat_natCast, List.drop_eq_getElem_cons ha]
    rfl
  refine ⟨0, fun k _ => ?_⟩
  unfold num_Reader_Fix.f
  rw [if_pos rfl, ht]
  show (if 0 ≤ b[a] ∧ b[a] < 256 then _ else none) = _
  rw [if_pos hc]
  rfl
theorem nfix1_none {b : List Int} {x e on A E O : Int} (ht : num_Reader_Take.f b x e on 1 = some ([], A, E, O)) : Ev (fun k => num_Reader_Fix.f k b x e on 1) (0, A, E, O) := by
  refine ⟨0, fun k _ => ?_⟩
  unfold num_Reader_Fix.f
  rw [if_pos rfl, ht]
  rfl
theorem leN_lt : ∀ (xs : List Int), Bytes xs → leN xs < 256 ^ xs.length := by
  intro xs; induction xs with
  | nil => intro _; simp [leN]
  | cons x xs ih =>
    intro h
    have hx := h x (by simp)
    have := ih (fun y hy => h y (by simp [hy]))
    simp only [leN, List.length_cons, Nat.pow_succ]; omega
def nums_ (w : Nat) : Nat → Nat → List Int
  | 0, _ => []
  | n + 1, B => ((B % 2 ^ w : Nat) : Int) :: nums_ w n (B / 2 ^ w)
theorem nums_length (w : Nat) : ∀ n B, (nums_ w n B).length = n := by
  intro n; induction n with
  | zero => intro B; rfl
  | succ n ih => intro B; simp [nums_, ih]
theorem nums_snoc (w : Nat) : ∀ n B, nums_ w (n + 1) B = nums_ w n B ++ [((B / 2 ^ (w * n) % 2 ^ w : Nat) : Int)] := by
  intro n; induction n with
  | zero => intro B; simp [nums_]
  | succ n ih =>
    intro B
    rw [nums_, ih (B / 2 ^ w), nums_, List.cons_append, Nat.div_div_eq_div_mul, ← Nat.pow_add, Nat.mul_add w n 1, Nat.mul_one, Nat.add_comm w]
def unpacked (b : List Int) (n w : Int) : List Int × Int :=
  if okSize n w then (if b.length < sizeN n.toNat w.toNat then ([], 2) else if sizeN n.toNat w.toNat < b.length then ([], 3) else if leN b < 2 ^ (w.toNat * n.toNat) then (nums_ w.toNat n.toNat (leN b), 0) else ([], 4)) else ([], 1)
/-- bytes: the last one -/
theorem leN_snoc : ∀ (xs : List Int) (x : Int), leN (xs ++ [x]) = leN xs + 256 ^ xs.length * x.toNat := by
  intro xs; induction xs with
  | nil => intro x; simp [leN]
  | cons y xs ih =>
    intro x
    simp only [List.cons_append, leN, ih, List.length_cons, Nat.pow_succ, Nat.mul_add]
    have : 256 * (256 ^ xs.length * x.toNat) = 256 ^ xs.length * 256 * x.toNat := by rw [Nat.mul_comm (256 ^ xs.length) 256, Nat.mul_assoc]
    omega
theorem leN_last (b : List Int) (s r : Nat) (hs : b.length = s + 1) (hb : Bytes b) : leN b < 2 ^ (8 * s + r) ↔ (b[s]'(by omega)).toNat < 2 ^ r := by
  have e : b = b.take s ++ [b[s]'(by omega)] := by
    have h1 := List.take_succ_eq_append_getElem (l := b) (i := s) (by omega)
    rw [List.take_of_length_le (by omega)] at h1; exact h1
  have hl : (b.take s).length = s := by rw [List.length_take]; omega
  have hlt := leN_lt (b.take s) (fun x hx => hb x (List.mem_of_mem_take hx))
  rw [hl] at hlt
  have hN : leN b = leN (b.take s) + 256 ^ s * (b[s]'(by omega)).toNat := by
    conv => lhs; rw [e]
    rw [leN_snoc, hl]
  rw [hN, pow8]
  constructor
  · intro h
    refine Nat.lt_of_mul_lt_mul_left (a := 256 ^ s) (Nat.lt_of_le_of_lt (Nat.le_add_left _ _) h)
  · intro h
    have : 256 ^ s * ((b[s]'(by omega)).toNat + 1) ≤ 256 ^ s * 2 ^ r := Nat.mul_le_mul_left _ h
    rw [Nat.mul_add, Nat.mul_one] at this
    exact Nat.lt_of_lt_of_le (by rw [Nat.add_comm]; exact Nat.add_lt_add_left hlt _) this
/-- part of a byte -/
theorem byte_part (N q r t : Nat) (h : r + t ≤ 8) : N / 256 ^ q % 256 / 2 ^ r % 2 ^ t = N / 2 ^ (8 * q + r) % 2 ^ t := by
  have e : N / 2 ^ (8 * q + r) = N / 256 ^ q / 2 ^ r := by rw [pow8, Nat.div_div_eq_div_mul]
  rw [e]
  obtain ⟨M, hM⟩ : ∃ M, M = N / 256 ^ q := ⟨_, rfl⟩
  rw [← hM]
  have h256 : (256 : Nat) = 2 ^ r * 2 ^ (8 - r) := by rw [← Nat.pow_add, Nat.add_sub_cancel' (Nat.le_trans (Nat.le_add_right r t) h)]
  rw [h256, Nat.mod_mul_right_div_self, Nat.mod_mod_of_dvd]
  exact Nat.pow_dvd_pow 2 (by omega)
theorem join_bits (B a h t : Nat) : B / 2 ^ a % 2 ^ h + (B / 2 ^ (a + h) % 2 ^ t) * 2 ^ h = B / 2 ^ a % 2 ^ (h + t) := by
  rw [Nat.pow_add 2 a h, ← Nat.div_div_eq_div_mul, Nat.pow_add 2 h t, Nat.mod_mul, Nat.mul_comm (2 ^ h)]
theorem up_sub {w h t m : Nat} (hm : w - h ≤ m + 1) (ht : 1 ≤ t) : w - (h + t) ≤ m := by omega
theorem up_256 {x : Int} (h : 0 ≤ x ∧ x < 256) : x.toNat < 256 := by omega
theorem up_2_64 {x : Nat} (h : x < 256) : (x : Int) < 2 ^ 64 := Int.lt_trans (Int.ofNat_lt.2 h) (by decide)
theorem up_cast {x : Nat} (h : x < 256) : (x : Int) < 18446744073709551616 := by omega
theorem shr8' {x : Int} {r : Nat} (h0 : 0 ≤ x) (hr : r ≤ 8) : shr .u8 x r = ((x.toNat / 2 ^ r : Nat) : Int) := by
  obtain ⟨a, rfl⟩ := Int.eq_ofNat_of_zero_le h0
  unfold shr
  have hb : IntKind.u8.bits = 8 := rfl
  rw [hb, Int.toNat_natCast, Nat.min_eq_left hr, Int.toNat_natCast]; simp
theorem shl64 {x n : Nat} (hn : n ≤ 64) (h : x * 2 ^ n < 18446744073709551616) : shl .u64 (x : Int) n = ((x * 2 ^ n : Nat) : Int) := by
  unfold shl
  have hb : IntKind.u64.bits = 64 := rfl
  rw [hb, Int.toNat_natCast, Nat.min_eq_left hn]
  have e : (x : Int) * 2 ^ n = ((x * 2 ^ n : Nat) : Int) := by simp
  rw [e, u64w_id (Int.natCast_nonneg _) (Int.ofNat_lt.2 h)]
theorem mask64 {x t : Nat} (hx : x < 256) (ht : t ≤ 8) : bits .and .u64 (x : Int) (IntKind.u64.wrap (shl .u64 1 (t : Int) - 1)) = ((x % 2 ^ t : Nat) : Int) := by
  have hp : 2 ^ t ≤ 256 := Nat.pow_le_pow_right (n := 2) (by decide) (j := 8) ht
  have hp1 : 1 ≤ 2 ^ t := Nat.one_le_two_pow
  have e1 : shl .u64 1 (t : Int) = ((2 ^ t : Nat) : Int) := by
    have := shl64 (x := 1) (n := t) (by omega) (by rw [Nat.one_mul]; omega)
    rw [Nat.one_mul] at this; exact this
  have e2 : IntKind.u64.wrap (((2 ^ t : Nat) : Int) - 1) = (2 : Int) ^ t - 1 := by
    rw [u64w_id (by omega) (by omega)]; simp
  rw [e1, e2, bits_mask .u64 64 (by decide) wraps_u64 t (by omega) (x : Int) (Int.natCast_nonneg _) (up_2_64 hx)]
  simp
theorem or_join64 {v p h t : Nat} (hv : v < 2 ^ h) (hp : p < 2 ^ t) (ht : h + t ≤ 64) : bits .or .u64 (v : Int) ((p * 2 ^ h : Nat) : Int) = ((v + p * 2 ^ h : Nat) : Int) := by
  have h1 : v < 2 ^ 64 := Nat.lt_of_lt_of_le hv (Nat.pow_le_pow_right (by decide) (by omega))
  have h2 : p * 2 ^ h < 2 ^ 64 := by
    have : p * 2 ^ h < 2 ^ t * 2 ^ h := Nat.mul_lt_mul_of_pos_right hp (Nat.two_pow_pos h)
    rw [← Nat.pow_add] at this
    exact Nat.lt_of_lt_of_le this (Nat.pow_le_pow_right (by decide) (by omega))
  rw [(bits_nat .u64 64 (by decide) wraps_u64 v (p * 2 ^ h) h1 h2).2, Nat.or_comm, Nat.mul_comm p, ← Nat.two_pow_add_eq_or_of_lt hv p, Nat.add_comm]
theorem up_nat (q r w have_ take ol : Nat) (hr : r < 8) (hlt : have_ < w) (hw : w ≤ 64) (hol : ol < 10000000) (htk : take = min (8 - r) (w - have_)) (hlen : 8 * q + r + (w - have_) ≤ 8 * ol) :
    q < ol ∧ 1 ≤ take ∧ take ≤ 8 ∧ r + take ≤ 8 ∧ have_ + take ≤ w ∧ wrap64 ((w : Int) - (have_ : Int)) = ((w - have_ : Nat) : Int) ∧
    wrap64 (((8 * q + r : Nat) : Int) + (take : Int)) = ((8 * q + r + take : Nat) : Int) ∧ wrap64 ((have_ : Int) + (take : Int)) = ((have_ + take : Nat) : Int) ∧ IntKind.u64.wrap (r : Int) = (r : Int) ∧ IntKind.u64.wrap (take : Int) = (take : Int) ∧ IntKind.u64.wrap (have_ : Int) = (have_ : Int) ∧ q < 10000000 ∧ 8 * q + r + take + (w - (have_ + take)) ≤ 8 * ol := by
  refine ⟨by omega, by omega, by omega, by omega, by omega, ?_, ?_, ?_, u64w_id (by omega) (by omega), u64w_id (by omega) (by omega), u64w_id (by omega) (by omega), by omega, by omega⟩
  · rw [w64 (by omega) (by omega)]; omega
  · rw [w64 (by omega) (by omega)]; omega
  · rw [w64 (by omega) (by omega)]; omega
theorem unpack_l1 (b : List Int) (hb : Bytes b) (hol : b.length < 10000000) (w : Nat) (hw : w ≤ 64) (out : List Int) (hout : out.length < 17592186044416) (n i : Int) (a : Nat) :
    ∀ (m have_ q r : Nat), w - have_ ≤ m → have_ ≤ w → a + have_ = 8 * q + r → r < 8 → 8 * q + r + (w - have_) ≤ 8 * b.length → ∀ res, Ev (fun k => bits_Unpack.l0 k b w (out ++ [((leN b / 2 ^ a % 2 ^ w : Nat) : Int)]) ((a + w : Nat) : Int) n (wrap64 (i + 1))) res →
      Ev (fun k => bits_Unpack.l1 k b w out ((8 * q + r : Nat) : Int) ((leN b / 2 ^ a % 2 ^ have_ : Nat) : Int) have_ n i) res := by
  intro m
  induction m with
  | zero =>
    intro have_ q r hm hh ha hr hlen res h
    have : have_ = w := Nat.le_antisymm hh (Nat.le_of_sub_eq_zero (Nat.le_zero.1 hm))
    subst this
    refine Ev.step (fun k => ?_) h
    simp only [bits_Unpack.l1]
    rw [if_pos trivial, if_pos hout, ← ha]
  | succ m ih =>
    intro have_ q r hm hh ha hr hlen res h
    by_cases he : have_ = w
    · subst he
      refine Ev.step (fun k => ?_) h
      simp only [bits_Unpack.l1]
      rw [if_pos trivial, if_pos hout, ← ha]
    · have hlt : have_ < w := Nat.lt_of_le_of_ne hh he
      obtain ⟨take, htk⟩ : ∃ t, t = min (8 - r) (w - have_) := ⟨_, rfl⟩
      obtain ⟨g1, g2, g3, g4, g5, g6, g7, g8, g9, g10, g11, g12, g13⟩ := up_nat q r w have_ take b.length hr hlt hw hol htk hlen
      have e1 := pk_e1 q r hr (Nat.lt_trans g12 (by decide))
      have e2 := pk_e2 q r hr
      have e3 := pk_e3 r (w - have_) take hr htk
      obtain ⟨q', r', hqr, hr'⟩ : ∃ q' r', 8 * q + r + take = 8 * q' + r' ∧ r' < 8 := ⟨(8 * q + r + take) / 8, (8 * q + r + take) % 8, (Nat.div_add_mod _ 8).symm, Nat.mod_lt _ (by decide)⟩
      have hsub : w - (have_ + take) ≤ m := up_sub hm g2
      have hih := ih (have_ + take) q' r' hsub g5 (by rw [← hqr, ← ha, Nat.add_assoc]) hr' (by rw [← hqr]; exact g13) res h
      have hbq := hb b[q] (List.getElem_mem g1)
      have hpart := byte_part (leN b) q r take g4
      rw [← leN_at b q g1 hb, ← ha] at hpart
      have hb256 : (b[q]).toNat / 2 ^ r < 256 := Nat.lt_of_le_of_lt (Nat.div_le_self _ _) (up_256 hbq)
      have s1 : IntKind.u64.wrap (shr .u8 (rd b (q : Int)) (r : Int)) = (((b[q]).toNat / 2 ^ r : Nat) : Int) := by
        rw [rd_get g1, shr8' hbq.1 (Nat.le_of_lt hr), u64w_id (Int.natCast_nonneg _) (up_cast hb256)]
      have hplt : leN b / 2 ^ (a + have_) % 2 ^ take < 2 ^ take := Nat.mod_lt _ (Nat.two_pow_pos _)
      have hvlt : leN b / 2 ^ a % 2 ^ have_ < 2 ^ have_ := Nat.mod_lt _ (Nat.two_pow_pos _)
      have h64 : have_ + take ≤ 64 := Nat.le_trans g5 hw
      have s2 : shl .u64 ((leN b / 2 ^ (a + have_) % 2 ^ take : Nat) : Int) (have_ : Int) = ((leN b / 2 ^ (a + have_) % 2 ^ take * 2 ^ have_ : Nat) : Int) := by
        refine shl64 (Nat.le_trans (Nat.le_add_right _ _) h64) ?_
        have : leN b / 2 ^ (a + have_) % 2 ^ take * 2 ^ have_ < 2 ^ take * 2 ^ have_ := Nat.mul_lt_mul_of_pos_right hplt (Nat.two_pow_pos _)
        rw [← Nat.pow_add] at this
        exact Nat.lt_of_lt_of_le this (Nat.le_trans (Nat.pow_le_pow_right (n := 2) (by decide) (j := 64) (by rw [Nat.add_comm]; exact h64)) (by decide))
      refine Ev.step (fun k => ?_) hih
      simp only [bits_Unpack.l1]
      rw [if_neg (fun hc => he (Int.ofNat_inj.1 hc)), e1, if_pos (Int.natCast_nonneg _), if_pos (Int.ofNat_lt.2 g1), e2, g9, if_pos (Int.natCast_nonneg _), g6, e3, g10, if_pos (Int.natCast_nonneg _), g11, if_pos (Int.natCast_nonneg _), s1, mask64 hb256 g3, hpart, s2, or_join64 hvlt hplt h64, join_bits, g7, g8, hqr]
theorem unpack_l0 (b : List Int) (hb : Bytes b) (w : Nat) (hw : w ≤ 64) (n : Nat) (hn : n ≤ 65536) (hlen : w * n ≤ 8 * b.length) (hol : b.length < 10000000) :
    ∀ (d i : Nat), n = i + d → Ev (fun k => bits_Unpack.l0 k b w (nums_ w i (leN b)) ((w * i : Nat) : Int) n i) (nums_ w n (leN b), 0) := by
  intro d
  induction d with
  | zero =>
    intro i hd
    have : i = n := hd.symm
    subst this
    refine Ev.step (f := fun _ => some (nums_ w i (leN b), 0)) (fun k => ?_) (Ev.now _)
    simp only [bits_Unpack.l0]
    rw [if_neg (Int.lt_irrefl _)]
  | succ d ih =>
    intro i hd
    have hrec := ih (i + 1) (by omega)
    have hwi : w * i + w ≤ 8 * b.length := by
      have : w * (i + 1) ≤ w * n := Nat.mul_le_mul_left _ (by omega)
      rw [Nat.mul_add, Nat.mul_one] at this; omega
    refine Ev.step (fun k => ?_) (unpack_l1 b hb hol w hw (nums_ w i (leN b)) (by rw [nums_length]; omega) n i (w * i) w 0 (w * i / 8) (w * i % 8) (Nat.le_refl _) (Nat.zero_le _) (by rw [Nat.add_zero, Nat.div_add_mod]) (Nat.mod_lt _ (by decide)) (by rw [Nat.div_add_mod, Nat.sub_zero]; exact hwi) _ (by
      rw [← nums_snoc, w64 (by omega) (by omega)]
      rw [Nat.mul_add, Nat.mul_one] at hrec
      exact hrec))
    simp only [bits_Unpack.l0]
    rw [if_pos (by omega), Nat.div_add_mod, Nat.pow_zero, Nat.mod_one]; rfl
theorem up_size {n w : Nat} (h : n * w % 8 = 0) : sizeN n w * 8 = n * w := by unfold sizeN; omega
theorem up_size2 {n w : Nat} (h : ¬ n * w % 8 = 0) : n * w = 8 * (sizeN n w - 1) + n * w % 8 ∧ sizeN n w = sizeN n w - 1 + 1 := by unfold sizeN; omega
theorem unpack_f (b : List Int) (hb : Bytes b) (n w : Int) : Ev (fun k => bits_Unpack.f k b n w) (unpacked b n w) := by
  unfold bits_Unpack.f unpacked
  rw [size_f]
  refine Ev.bind (Ev.now _) ?_
  by_cases ho : okSize n w
  · obtain ⟨h1, h2, h3, h4⟩ := id ho
    obtain ⟨m, rfl⟩ := Int.eq_ofNat_of_zero_le h3
    obtain ⟨n, rfl⟩ := Int.eq_ofNat_of_zero_le h1
    simp only [if_pos ho, Int.toNat_natCast]
    have hnw : n * m ≤ 65536 * 64 := Nat.mul_le_mul (by omega) (by omega)
    have hs0 : sizeN n m = (n * m + 7) / 8 := rfl
    have hneg : ¬ ((sizeN n m : Nat) : Int) < 0 := Int.not_lt.2 (Int.natCast_nonneg _)
    simp only [if_neg hneg]
    by_cases c1 : b.length < sizeN n m
    · simp only [if_pos (Int.ofNat_lt.2 c1), if_pos c1]; exact Ev.now _
    simp only [if_neg (fun h => c1 (Int.ofNat_lt.1 h)), if_neg c1]
    by_cases c2 : sizeN n m < b.length
    · have : (b.length : Int) > ((sizeN n m : Nat) : Int) := Int.ofNat_lt.2 c2
      simp only [if_pos this, if_pos c2]; exact Ev.now _
    have c2' : ¬ (b.length : Int) > ((sizeN n m : Nat) : Int) := fun h => c2 (Int.ofNat_lt.1 h)
    simp only [if_neg c2', if_neg c2]
    have hlen : b.length = sizeN n m := by omega
    have emul : wrap64 ((n : Int) * (m : Int)) = ((n * m : Nat) : Int) := by rw [← Int.natCast_mul, w64 (by omega) (by omega)]
    have emod : Int.tmod ((n * m : Nat) : Int) 8 = ((n * m % 8 : Nat) : Int) := by rw [Int.tmod_eq_emod_of_nonneg (Int.natCast_nonneg _)]; omega
    rw [emul, emod]
    have hol : b.length < 10000000 := by omega
    have hgo : leN b < 2 ^ (m * n) → Ev (fun k => bits_Unpack.l0 k b m [] 0 n 0) (nums_ m n (leN b), 0) := fun _ => by
      exact unpack_l0 b hb m (by omega) n (by omega) (by rw [hlen, Nat.mul_comm m]; omega) hol n 0 (by omega)
    by_cases c3 : n * m % 8 = 0
    · have c3' : ((n * m % 8 : Nat) : Int) = 0 := by rw [c3]; rfl
      have hlt : leN b < 2 ^ (m * n) := by
        have := leN_lt b hb
        rw [show (256 : Nat) = 2 ^ 8 by decide, ← Nat.pow_mul, hlen, Nat.mul_comm 8, up_size c3, Nat.mul_comm n] at this; exact this
      simp only [if_pos c3', if_pos hlt]
      exact hgo hlt
    · have c3' : ¬ ((n * m % 8 : Nat) : Int) = 0 := fun h => c3 (Int.ofNat_inj.1 h)
      obtain ⟨u1, u2⟩ := up_size2 c3
      have hpos : sizeN n m - 1 < b.length := by omega
      have e1 : wrap64 (((sizeN n m : Nat) : Int) - 1) = ((sizeN n m - 1 : Nat) : Int) := by rw [w64 (by omega) (by omega)]; omega
      have e2 : IntKind.u64.wrap ((n * m % 8 : Nat) : Int) = ((n * m % 8 : Nat) : Int) := u64w_id (by omega) (by omega)
      have hbq := hb b[sizeN n m - 1] (List.getElem_mem hpos)
      have hiff := leN_last b (sizeN n m - 1) (n * m % 8) (by omega) hb
      rw [← u1, Nat.mul_comm n] at hiff
      rw [e1, e2]
      simp only [if_neg c3', if_pos (Int.natCast_nonneg (sizeN n m - 1)), if_pos (Int.ofNat_lt.2 hpos), if_pos (Int.natCast_nonneg (n * m % 8))]
      rw [rd_get hpos, shr8' hbq.1 (Nat.le_of_lt (Nat.mod_lt _ (by decide)))]
      by_cases c4 : leN b < 2 ^ (m * n)
      · have hz : (((b[sizeN n m - 1]).toNat / 2 ^ (n * m % 8) : Nat) : Int) = 0 := by rw [Nat.mul_comm n] at *; rw [Nat.div_eq_of_lt (hiff.1 c4)]; rfl
        simp only [if_pos hz, if_pos c4]
        exact hgo c4
      · have hz : ¬ (((b[sizeN n m - 1]).toNat / 2 ^ (n * m % 8) : Nat) : Int) = 0 := fun h => c4 (hiff.2 (by
          rcases Nat.div_eq_zero_iff.1 (Int.ofNat_inj.1 h) with h | h
          · exact absurd h (Nat.ne_of_gt (Nat.two_pow_pos _))
          · rw [Nat.mul_comm n] at h; exact h))
        simp only [if_neg hz, if_neg c4]
        exact Ev.now _
  · simp only [if_neg ho]
    have : (-1 : Int) < 0 := by decide
    simp only [if_pos this]
    exact Ev.now _
def sh : List Int → Nat → Nat → Int × Int × Int
  | [], _, _ => (0, 0, 2)
  | b :: l, n, v =>
    if 9 < n ∨ (n = 9 ∧ 1 < b.toNat % 128) ∨ (0 < n ∧ b = 0) then (0, 0, 4)
    else if b < 128 then (((v + b.toNat % 128 * 128 ^ n : Nat) : Int), ((n + 1 : Nat) : Int), 0)
    else sh l (n + 1) (v + b.toNat % 128 * 128 ^ n)
theorem or_add (v x n : Nat) (h : v < 2 ^ n) : v ||| (x * 2 ^ n) = v + x * 2 ^ n := by
  rw [Nat.or_comm, Nat.mul_comm x, ← Nat.two_pow_add_eq_or_of_lt h, Nat.add_comm]
theorem shl64s {x n : Nat} (hn : n ≤ 64) (h : x * 2 ^ n < 18446744073709551616) : shl .u64 (x : Int) n = ((x * 2 ^ n : Nat) : Int) := by
  unfold shl
  rw [Int.toNat_natCast, show IntKind.u64.bits = 64 from rfl, Nat.min_eq_left hn, show ((x : Int) * 2 ^ n) = ((x * 2 ^ n : Nat) : Int) by simp, u64w_id (Int.natCast_nonneg _) (by omega)]
theorem sh_bound {c n v : Nat} (hn : n ≤ 9) (h9 : ¬ (n = 9 ∧ 1 < c % 128)) (hv : v < 128 ^ n) : v + c % 128 * 128 ^ n < 18446744073709551616 ∧ v + c % 128 * 128 ^ n < 128 ^ (n + 1) := by
  have h9' : n = 9 → c % 128 ≤ 1 := fun h => by omega
  clear h9
  rcases (show n = 0 ∨ n = 1 ∨ n = 2 ∨ n = 3 ∨ n = 4 ∨ n = 5 ∨ n = 6 ∨ n = 7 ∨ n = 8 ∨ n = 9 by omega) with rfl | rfl | rfl | rfl | rfl | rfl | rfl | rfl | rfl | rfl <;> simp only [Nat.reducePow, Nat.reduceAdd] at hv ⊢ <;> first | omega | (have := h9' rfl; omega)
theorem sh_or {c n v : Nat} (hn : n ≤ 9) (h9 : ¬ (n = 9 ∧ 1 < c % 128)) (hv : v < 128 ^ n) : Go.bits .or .u64 (v : Int) (shl .u64 ((c % 128 : Nat) : Int) (IntKind.u64.wrap ((7 * n : Nat) : Int))) = ((v + c % 128 * 128 ^ n : Nat) : Int) := by
  have hb := (sh_bound hn h9 hv).1
  have e : 128 ^ n = 2 ^ (7 * n) := by rw [Nat.pow_mul]
  rw [u64w_id (by omega) (by omega)]
  rw [e] at hb hv ⊢
  rw [shl64s (by omega) (Nat.lt_of_le_of_lt (Nat.le_add_left _ _) hb), bits_or_u64_nat _ _ (Nat.lt_of_le_of_lt (Nat.le_add_right _ _) hb) (Nat.lt_of_le_of_lt (Nat.le_add_left _ _) hb), or_add _ _ _ hv]
theorem and128 : ∀ c : Nat, c < 256 → (Go.bits .and .u8 (c : Int) 128 = 0 ↔ c < 128) := by decide +kernel
theorem and127' : ∀ c : Nat, c < 256 → Go.bits .and .u8 (c : Int) 127 = ((c % 128 : Nat) : Int) := by decide +kernel
theorem and127 {c : Nat} (h : c < 256) : IntKind.u64.wrap (Go.bits .and .u8 (c : Int) 127) = ((c % 128 : Nat) : Int) := by
  rw [and127' c h, u64w_id (by omega) (by omega)]
theorem shr9 {c : Nat} : (shr .u64 ((c % 128 : Nat) : Int) (IntKind.u64.wrap (wrap64 (64 - ((7 * 9 : Nat) : Int)))) != 0) = decide (1 < c % 128) := by
  have e : IntKind.u64.wrap (wrap64 (64 - ((7 * 9 : Nat) : Int))) = 1 := by rw [w64 (by omega) (by omega), u64w_id (by omega) (by omega)]; rfl
  rw [e]; unfold shr
  rw [show (2 : Int) ^ min (1 : Int).toNat IntKind.u64.bits = 2 by decide]
  by_cases h : 1 < c % 128
  · rw [decide_eq_true h, bne_iff_ne]; omega
  · rw [decide_eq_false h]; simp only [bne_eq_false_iff_eq]; omega
theorem short_at (L : List Int) (_ : L.length < 4611686018427387904) (k n v c : Nat) (h : n < L.length) (hc : L[n] = (c : Int)) (hc2 : c < 256) (hn : n ≤ 9) :
    num_short.l0 (k + 1) L v n ((7 * n : Nat) : Int) = num_short.j1 k L v ((n + 1 : Nat) : Int) ((7 * n : Nat) : Int) c ((c % 128 : Nat) : Int) (decide (n = 9 ∧ 1 < c % 128)) := by
  have hrd : rd L (n : Int) = (c : Int) := by rw [rd_get h, hc]
  simp only [num_short.l0]
  rw [if_neg (by omega), if_pos (by omega), if_pos (by omega), if_neg (by omega), hrd, and127 hc2, w64 (n := (n : Int) + 1) (by omega) (by omega), w64 (n := ((7 * n : Nat) : Int) + 7) (by omega) (by omega)]
  rw [show ((n : Int) + 1) = ((n + 1 : Nat) : Int) by omega]
  by_cases h9 : n = 9
  · subst h9
    rw [if_pos (by omega), if_pos (by rw [u64w]; omega), shr9]
    simp
  · rw [if_neg (by omega), decide_eq_false (by omega)]
theorem short_l0 (L : List Int) (hw : ∀ x ∈ L, 0 ≤ x ∧ x < 256) (hl : L.length < 4611686018427387904) : ∀ (d n v : Nat), L.length = n + d → n ≤ 10 → v < 128 ^ n → Ev (fun k => num_short.l0 k L v n ((7 * n : Nat) : Int)) (sh (L.drop n) n v) := by
  intro d
  induction d with
  | zero =>
    intro n v hd hn hv
    rw [List.drop_of_length_le (by omega)]
    exact Ev.step (f := fun _ => some (0, 0, 2)) (fun k => by simp only [num_short.l0]; rw [if_pos (by omega)]) (Ev.now _)
  | succ d ih =>
    intro n v hd hn hv
    have hlt : n < L.length := by omega
    obtain ⟨c, hc, hc2⟩ : ∃ c : Nat, L[n] = (c : Int) ∧ c < 256 := ⟨L[n].toNat, by have := hw _ (List.getElem_mem hlt); omega, by have := hw _ (List.getElem_mem hlt); omega⟩
    have hrd : rd L (n : Int) = (c : Int) := by rw [rd_get hlt, hc]
    rw [dropc L n hlt, hc]
    simp only [sh, Int.toNat_natCast]
    by_cases hN : 9 < n
    · rw [if_pos (.inl hN)]
      refine Ev.step (f := fun k => num_short.j1 k L v (wrap64 (n + 1)) ((7 * n : Nat) : Int) (rd L n) (IntKind.u64.wrap (Go.bits .and .u8 (rd L n) 127)) (decide ((7 * n : Nat) ≥ (64 : Int)))) (fun k => by simp only [num_short.l0]; rw [if_neg (by omega), if_pos (by omega), if_pos (by omega), if_pos (by omega)]) ?_
      refine Ev.step (f := fun _ => some (0, 0, 4)) (fun k => by simp only [num_short.j1]; rw [if_pos (decide_eq_true (by omega))]) (Ev.now _)
    · refine Ev.step (short_at L hl · n v c hlt hc hc2 (by omega)) ?_
      by_cases h9 : n = 9 ∧ 1 < c % 128
      · rw [if_pos (.inr (.inl h9)), decide_eq_true h9]
        exact Ev.step (f := fun _ => some (0, 0, 4)) (fun k => by simp only [num_short.j1]; rw [if_pos trivial]) (Ev.now _)
      · rw [decide_eq_false h9]
        refine Ev.step (f := fun k => num_short.j2 k L v ((n + 1 : Nat) : Int) ((7 * n : Nat) : Int) c ((c % 128 : Nat) : Int) (decide (0 < n ∧ c = 0))) (fun k => by
          simp only [num_short.j1]
          rw [if_neg (by decide)]
          by_cases h0 : c = 0
          · rw [if_pos (by omega)]; congr 1; exact decide_eq_decide.mpr (by omega)
          · rw [if_neg (by omega), decide_eq_false (by omega)]) ?_
        by_cases h0 : 0 < n ∧ c = 0
        · rw [if_pos (.inr (.inr ⟨h0.1, by omega⟩)), decide_eq_true h0]
          exact Ev.step (f := fun _ => some (0, 0, 4)) (fun k => by simp only [num_short.j2]; rw [if_pos trivial]) (Ev.now _)
        · rw [if_neg (by rintro (h | h | h); exact hN h; exact h9 h; exact h0 ⟨h.1, by omega⟩), decide_eq_false h0]
          have hor := sh_or (c := c) (n := n) (v := v) (by omega) h9 hv
          have hbd := sh_bound (c := c) (n := n) (v := v) (by omega) h9 hv
          have hu : IntKind.u64.wrap ((7 * n : Nat) : Int) = ((7 * n : Nat) : Int) := u64w_id (by omega) (by omega)
          generalize v + c % 128 * 128 ^ n = v2 at hor hbd ⊢
          by_cases h8 : c < 128
          · rw [if_pos (by omega)]
            exact Ev.step (f := fun _ => some ((v2 : Int), ((n + 1 : Nat) : Int), 0)) (fun k => by simp only [num_short.j2]; rw [if_neg (by decide), if_pos (by rw [hu]; exact Int.natCast_nonneg _), if_pos ((and128 c hc2).2 h8), hor]) (Ev.now _)
          · rw [if_neg (by omega)]
            refine Ev.step (f := fun k => num_short.l0 k L v2 ((n + 1 : Nat) : Int) ((7 * (n + 1) : Nat) : Int)) (fun k => by
              simp only [num_short.j2]
              rw [if_neg (by decide), if_pos (by rw [hu]; exact Int.natCast_nonneg _), if_neg (fun h => h8 ((and128 c hc2).1 h)), hor, w64 (by omega) (by omega)]
              rw [show ((7 * n : Nat) : Int) + 7 = ((7 * (n + 1) : Nat) : Int) by omega]) ?_
            exact ih (n + 1) v2 (by omega) (by omega) hbd.2
theorem short_f (L : List Int) (hw : ∀ x ∈ L, 0 ≤ x ∧ x < 256) (hl : L.length < 4611686018427387904) : Ev (fun k => num_short.f k L) (sh L 0 0) := by
  have := short_l0 L hw hl L.length 0 0 (by omega) (by omega) (by decide)
  rw [List.drop_zero] at this
  exact Ev.congr (fun k => by unfold num_short.f; rfl) this
def zag (v : Nat) : Int := if v % 2 = 0 then ((v / 2 : Nat) : Int) else -((v / 2 : Nat) : Int) - 1
theorem xor_i64_zero (x : Nat) (hx : x < 9223372036854775808) : Go.bits .xor .i64 (x : Int) 0 = (x : Int) := by
  show IntKind.i64.wrap ((BitVec.ofInt 64 (x : Int) ^^^ BitVec.ofInt 64 0).toNat : Int) = _
  have h2 : (BitVec.ofInt 64 (x : Int)).toNat = x := by
    rw [BitVec.ofInt_natCast, BitVec.toNat_ofNat]; exact Nat.mod_eq_of_lt (by omega)
  rw [BitVec.toNat_xor, h2, show (BitVec.ofInt 64 0).toNat = 0 by decide, Nat.xor_zero, IntKind.wrap_i64]; omega
theorem xor_i64_ones (x : Nat) (hx : x < 9223372036854775808) : Go.bits .xor .i64 (x : Int) (-1) = -(x : Int) - 1 := by
  rw [← Lib.i64_not x hx]
  show IntKind.i64.wrap ((BitVec.ofInt 64 (x : Int) ^^^ BitVec.ofInt 64 (-1)).toNat : Int) = IntKind.i64.wrap ((BitVec.ofInt 64 (-1) ^^^ BitVec.ofInt 64 (x : Int)).toNat : Int)
  rw [BitVec.xor_comm]
theorem zag_f (v : Nat) (hv : v < 18446744073709551616) : num_Zag.f v = some (zag v) := by
  unfold num_Zag.f zag
  have h1 : wrap64 ((v : Int) / 2) = ((v / 2 : Nat) : Int) := by rw [w64 (by omega) (by omega)]; omega
  rw [h1, Lib.u64_and1 _ (by omega) (by omega)]
  by_cases h : v % 2 = 0
  · rw [if_pos h, show ((v : Int) % 2) = 0 by omega, w64 (n := 0) (by omega) (by omega), w64 (by omega) (by omega), Int.neg_zero, xor_i64_zero _ (by omega)]
  · rw [if_neg h, show ((v : Int) % 2) = 1 by omega, w64 (n := 1) (by omega) (by omega), w64 (by omega) (by omega), xor_i64_ones _ (by omega)]
theorem sh_cases : ∀ (l : List Int) (n v : Nat), (∀ x ∈ l, 0 ≤ x ∧ x < 256) → n ≤ 10 → v < 128 ^ n →
    sh l n v = (0, 0, 2) ∨ sh l n v = (0, 0, 4) ∨ ∃ v' m : Nat, sh l n v = ((v' : Int), (m : Int), 0) ∧ n < m ∧ m ≤ n + l.length ∧ v' < 18446744073709551616 := by
  intro l
  induction l with
  | nil => intro n v _ _ _; exact .inl rfl
  | cons b l ih =>
    intro n v hw hn hv
    obtain ⟨c, rfl, hc2⟩ : ∃ c : Nat, b = (c : Int) ∧ c < 256 := ⟨b.toNat, by have := hw b (by simp); omega, by have := hw b (by simp); omega⟩
    simp only [sh, Int.toNat_natCast]
    by_cases hE : 9 < n ∨ (n = 9 ∧ 1 < c % 128) ∨ (0 < n ∧ (c : Int) = 0)
    · rw [if_pos hE]; exact .inr (.inl rfl)
    · rw [if_neg hE]
      have hbd := sh_bound (c := c) (n := n) (v := v) (by omega) (by omega) hv
      generalize v + c % 128 * 128 ^ n = v2 at hbd ⊢
      by_cases h8 : (c : Int) < 128
      · rw [if_pos h8]
        exact .inr (.inr ⟨v2, n + 1, rfl, by omega, by simp only [List.length_cons]; omega, hbd.1⟩)
      · rw [if_neg h8]
        rcases ih (n + 1) v2 (fun x hx => hw x (by simp [hx])) (by omega) hbd.2 with h | h | ⟨v', m, h1, h2, h3, h4⟩
        · exact .inl h
        · exact .inr (.inl h)
        · exact .inr (.inr ⟨v', m, h1, by omega, by simp only [List.length_cons]; omega, h4⟩)
theorem drop_bytes {L : List Int} (hw : ∀ x ∈ L, 0 ≤ x ∧ x < 256) (a : Nat) : ∀ x ∈ L.drop a, 0 ≤ x ∧ x < 256 := fun x hx => hw x (List.mem_of_mem_drop hx)
theorem nvar_ok {b : List Int} (hw : ∀ x ∈ b, 0 ≤ x ∧ x < 256) (hl : b.length < 4611686018427387904) {a v m : Nat} {on : Int} (ha : a ≤ b.length) (h : sh (b.drop a) 0 0 = ((v : Int), (m : Int), 0)) (hm : a + m ≤ b.length) :
    Ev (fun k => num_Reader_Var.f k b a 0 on) ((v : Int), ((a + m : Nat) : Int), 0, on) := by
  have hs := short_f (b.drop a) (drop_bytes hw a) (by rw [List.length_drop]; omega)
  rw [h] at hs
  refine Ev.congr (f := fun k => _) (fun k => by unfold num_Reader_Var.f; rw [if_neg (by simp), if_pos ⟨Int.natCast_nonneg _, by omega⟩, Int.toNat_natCast]) (Ev.bind hs ?_)
  refine ⟨0, fun k _ => ?_⟩
  simp only [num_Reader_Fail.f, num_Reader_Fail.next, Option.bind_some]
  rw [w64 (by omega) (by omega)]
  simp
theorem nvar_err {b : List Int} (hw : ∀ x ∈ b, 0 ≤ x ∧ x < 256) (hl : b.length < 4611686018427387904) {a : Nat} {on x : Int} (ha : a ≤ b.length) (hx : x = 2 ∨ x = 4) (h : sh (b.drop a) 0 0 = (0, 0, x)) :
    Ev (fun k => num_Reader_Var.f k b a 0 on) (0, (a : Int), x, (a : Int)) := by
  have hs := short_f (b.drop a) (drop_bytes hw a) (by rw [List.length_drop]; omega)
  rw [h] at hs
  refine Ev.congr (f := fun k => _) (fun k => by unfold num_Reader_Var.f; rw [if_neg (by simp), if_pos ⟨Int.natCast_nonneg _, by omega⟩, Int.toNat_natCast]) (Ev.bind hs ?_)
  refine ⟨0, fun k _ => ?_⟩
  rcases hx with rfl | rfl
  all_goals
    simp [num_Reader_Fail.f, num_Reader_Fail.next]
    rw [w64 (by omega) (by omega)]
theorem nums_fit (w : Nat) : ∀ (n B : Nat), fitAll (nums_ w n B) w := by
  intro n
  induction n with
  | zero => intro B x hx; simp [nums_] at hx
  | succ n ih =>
    intro B x hx
    simp only [nums_, List.mem_cons] at hx
    rcases hx with rfl | hx
    · rw [Int.toNat_natCast]; exact Nat.mod_lt _ (Nat.two_pow_pos w)
    · exact ih _ x hx
theorem nums_u64 (w : Nat) (hw : w ≤ 64) (n B : Nat) : ∀ x ∈ nums_ w n B, 0 ≤ x ∧ x < 18446744073709551616 := by
  intro x hx
  have hf := nums_fit w n B x hx
  have h0 : 0 ≤ x := by
    clear hf
    induction n generalizing B with
    | zero => simp [nums_] at hx
    | succ n ih =>
      simp only [nums_, List.mem_cons] at hx
      rcases hx with rfl | hx
      · exact Int.natCast_nonneg _
      · exact ih _ hx
  refine ⟨h0, ?_⟩
  have h2 : x.toNat < 2 ^ 64 := Nat.lt_of_lt_of_le hf (Nat.pow_le_pow_right (by decide) hw)
  have h3 : x.toNat < 18446744073709551616 := Nat.lt_of_lt_of_eq h2 (by decide)
  clear hf h2
  omega
theorem unpacked_ok {b : List Int} {n w : Int} (h : (unpacked b n w).2 = 0) : ((unpacked b n w).1.length : Int) = n ∧ (∀ x ∈ (unpacked b n w).1, 0 ≤ x ∧ x < 18446744073709551616) ∧ 0 ≤ w ∧ w ≤ 64 := by
  unfold unpacked at h ⊢
  by_cases ho : okSize n w
  · rw [if_pos ho] at h ⊢
    split at h
    · simp at h
    · rename_i h1
      rw [if_neg h1]
      split at h
      · simp at h
      · rename_i h2
        rw [if_neg h2]
        split at h
        · rename_i h3
          rw [if_pos h3]
          obtain ⟨a1, a2, a3, a4⟩ := ho
          exact ⟨by rw [nums_length]; omega, nums_u64 _ (by omega) _ _, a3, a4⟩
        · simp at h
  · rw [if_neg ho] at h; simp at h
theorem ntake_none {b : List Int} (hl : b.length ≤ 140737488355328) {a : Nat} (ha : a ≤ b.length) {x y : Int} (hx : x ≠ 0) : num_Reader_Take.f b (a : Int) x y 1 = some ([], (a : Int), x, y) := by
  unfold num_Reader_Take.f; rw [if_pos ⟨by omega, by omega, by omega⟩, if_pos hx]
theorem ntake_end {b : List Int} (hl : b.length ≤ 140737488355328) (y : Int) : num_Reader_Take.f b (b.length : Int) 0 y 1 = some ([], (b.length : Int), 2, (b.length : Int)) := by
  unfold num_Reader_Take.f; rw [if_pos ⟨by omega, by omega, by omega⟩, if_neg (by simp), if_neg (by omega), if_pos (by omega)]
theorem ntake_all {b : List Int} (hl : b.length ≤ 140737488355328) {a : Nat} (ha : a ≤ b.length) (on : Int) : num_Reader_Take.f b (a : Int) 0 on ((b.length - a : Nat) : Int) = some (b.drop a, (b.length : Int), 0, on) := by
  unfold num_Reader_Take.f
  rw [if_pos ⟨by omega, by omega, by omega⟩, if_neg (by simp), if_neg (by omega), if_neg (by omega), Int.toNat_natCast, Int.toNat_natCast, List.take_of_length_le (by rw [List.length_drop]; exact Nat.le_refl _), show (a : Int) + ((b.length - a : Nat) : Int) = (b.length : Int) by omega]
theorem nleft {b : List Int} (hl : b.length ≤ 140737488355328) {a : Nat} (ha : a ≤ b.length) : wrap64 ((b.length : Int) - a) = ((b.length - a : Nat) : Int) := by rw [w64 (by omega) (by omega)]; omega
def nxt (last v : Int) : Int := wrap64 (last + wrap64 (IntKind.u64.wrap (v + 1)))
def lst (b : List Int) : Nat → Nat → List Int → List Int × Nat × Int
  | 0, a, out => (out, a, 0)
  | c + 1, a, out =>
    if (sh (b.drop a) 0 0).2.2 = 0 then
      (if out.length = 0 then lst b c (a + (sh (b.drop a) 0 0).2.1.toNat) (out ++ [zag (sh (b.drop a) 0 0).1.toNat])
      else if nxt (rd out ((out.length : Int) - 1)) (sh (b.drop a) 0 0).1 ≤ rd out ((out.length : Int) - 1) then ([], 0, 4)
      else lst b c (a + (sh (b.drop a) 0 0).2.1.toNat) (out ++ [nxt (rd out ((out.length : Int) - 1)) (sh (b.drop a) 0 0).1]))
    else ([], 0, (sh (b.drop a) 0 0).2.2)
def lstv (b : List Int) (n : Int) : List Int × Nat × Int :=
  if (sh b 0 0).2.2 = 0 then (if (sh b 0 0).1 > n then ([], 0, 5) else lst b (sh b 0 0).1.toNat (sh b 0 0).2.1.toNat []) else ([], 0, (sh b 0 0).2.2)
def picked (L d : List Int) : List Int × Int :=
  if ∃ x ∈ d, x ≥ (L.length : Int) then ([], 5) else if ∀ j, j < L.length → (j : Int) ∈ d then (d.map (rd L), 0) else ([], 4)
def dictv (b : List Int) (n : Int) : List Int × Int :=
  if n < 0 ∨ n > 65536 then ([], 1)
  else if (lstv b n).2.2 = 0 then
    (if h : (lstv b n).2.1 < b.length then
      (if b[(lstv b n).2.1] = (wd (lstv b n).1.length : Int) then
        (if (unpacked (b.drop ((lstv b n).2.1 + 1)) n b[(lstv b n).2.1]).2 = 0 then picked (lstv b n).1 (unpacked (b.drop ((lstv b n).2.1 + 1)) n b[(lstv b n).2.1]).1
        else ([], (unpacked (b.drop ((lstv b n).2.1 + 1)) n b[(lstv b n).2.1]).2))
      else ([], 4))
    else ([], 2))
  else ([], (lstv b n).2.2)
/-- which places are used -/
def usedOf (n : Nat) (d : List Int) : List Bool := (List.range n).map (fun j : Nat => decide ((j : Int) ∈ d))
theorem usedOf_length (n : Nat) (d : List Int) : (usedOf n d).length = n := by simp [usedOf]
theorem usedOf_set (n : Nat) (d : List Int) (j : Nat) : (usedOf n d).set j true = usedOf n (d ++ [(j : Int)]) := by
  apply List.ext_getElem
  · simp [usedOf]
  · intro i h1 h2
    have hi : i < n := by simpa [usedOf] using h1
    rw [List.getElem_set]
    by_cases e : j = i
    · subst e; simp [usedOf]
    · rw [if_neg e]
      have : ¬ (i : Int) = (j : Int) := by omega
      simp [usedOf, this]
theorem usedOf_false (n : Nat) (d : List Int) : false ∈ usedOf n d ↔ ¬ ∀ j, j < n → (j : Int) ∈ d := by
  unfold usedOf
  simp only [List.mem_map, List.mem_range, decide_eq_false_iff_not]
  constructor
  · rintro ⟨j, h1, h2⟩ h; exact h2 (h j h1)
  · intro h
    refine Classical.byContradiction fun hc => h (fun j hj => Classical.byContradiction fun h2 => hc ⟨j, hj, h2⟩)
theorem index_l0 (u : List Bool) (hn : u.length ≤ 1000000) : ∀ (d i : Nat), u.length = i + d → ∃ r, Ev (fun k => slices_Index_bool_bool.l0 k u false u.length i) r ∧ (r ≥ 0 ↔ false ∈ u.drop i) := by
  intro d
  induction d with
  | zero =>
    intro i hd
    refine ⟨-1, Ev.step (f := fun _ => some (-1)) (fun k => by simp only [slices_Index_bool_bool.l0]; rw [if_neg (by omega)]) (Ev.now _), ?_⟩
    rw [List.drop_of_length_le (by omega)]; simp
  | succ d ih =>
    intro i hd
    have hi : i < u.length := by omega
    have hrd : rdOf false u (i : Int) = u[i] := by simp [rdOf, hi]
    rw [dropc u i hi]
    by_cases hu : u[i] = false
    · refine ⟨i, Ev.step (f := fun _ => some (i : Int)) (fun k => ?_) (Ev.now _), by rw [hu]; simp⟩
      simp only [slices_Index_bool_bool.l0]
      rw [if_pos (Int.ofNat_lt.2 hi), if_pos (Int.natCast_nonneg _), if_pos (Int.ofNat_lt.2 hi), hrd, hu, if_pos (by decide)]
    · obtain ⟨r, r1, r2⟩ := ih (i + 1) (by omega)
      refine ⟨r, Ev.step (fun k => ?_) r1, by
        rw [r2, List.mem_cons]
        exact ⟨.inr, fun h => h.elim (fun e => absurd e.symm hu) id⟩⟩
      simp only [slices_Index_bool_bool.l0]
      rw [if_pos (Int.ofNat_lt.2 hi), if_pos (Int.natCast_nonneg _), if_pos (Int.ofNat_lt.2 hi), hrd, (by simpa using hu : u[i] = true), if_neg (by decide), w64 (by omega) (by omega)]
      rfl
theorem contains_f (u : List Bool) (hn : u.length ≤ 1000000) : Ev (fun k => slices_Contains_bool_bool.f k u false) (decide (false ∈ u)) := by
  obtain ⟨r, r1, r2⟩ := index_l0 u hn u.length 0 (by omega)
  unfold slices_Contains_bool_bool.f slices_Index_bool_bool.f
  refine Ev.bind r1 ?_
  rw [List.drop_zero] at r2
  rw [show decide (r ≥ 0) = decide (false ∈ u) from decide_eq_decide.2 r2]
  exact Ev.now _
/-- A blob at a place: its bytes, the place behind, an error. -/
def blb (b : List Int) (a : Nat) : List Int × Nat × Int :=
  if (sh (b.drop a) 0 0).2.2 = 0 then
    (if 65536 < (sh (b.drop a) 0 0).1.toNat then ([], a, 12)
    else if b.length - a - (sh (b.drop a) 0 0).2.1.toNat < (sh (b.drop a) 0 0).1.toNat then ([], a, 2)
    else ((b.drop (a + (sh (b.drop a) 0 0).2.1.toNat)).take (sh (b.drop a) 0 0).1.toNat, a + (sh (b.drop a) 0 0).2.1.toNat + (sh (b.drop a) 0 0).1.toNat, 0))
  else ([], a, (sh (b.drop a) 0 0).2.2)
def tst (b : List Int) : Nat → Nat → List ByteArray → List ByteArray × Nat × Int
  | 0, a, out => (out, a, 0)
  | c + 1, a, out =>
    if (blb b a).2.2 = 0 then (if rises out (strOfNums (blb b a).1) then tst b c (blb b a).2.1 (out ++ [strOfNums (blb b a).1]) else ([], 0, 4)) else ([], 0, (blb b a).2.2)
def tsv (b : List Int) (n : Int) : List ByteArray × Nat × Int :=
  if (sh b 0 0).2.2 = 0 then (if (sh b 0 0).1 > n then ([], 0, 5) else tst b (sh b 0 0).1.toNat (sh b 0 0).2.1.toNat []) else ([], 0, (sh b 0 0).2.2)
def tpicked (L : List ByteArray) (d : List Int) : List ByteArray × Int :=
  if ∃ x ∈ d, x ≥ (L.length : Int) then ([], 5) else if ∀ j, j < L.length → (j : Int) ∈ d then (d.map (rdOf ByteArray.empty L), 0) else ([], 4)
def textv (b : List Int) (n : Int) : List ByteArray × Int :=
  if n < 0 ∨ n > 65536 then ([], 1)
  else if (tsv b n).2.2 = 0 then
    (if h : (tsv b n).2.1 < b.length then
      (if b[(tsv b n).2.1] = (wd (tsv b n).1.length : Int) then
        (if (unpacked (b.drop ((tsv b n).2.1 + 1)) n b[(tsv b n).2.1]).2 = 0 then tpicked (tsv b n).1 (unpacked (b.drop ((tsv b n).2.1 + 1)) n b[(tsv b n).2.1]).1
        else ([], (unpacked (b.drop ((tsv b n).2.1 + 1)) n b[(tsv b n).2.1]).2))
      else ([], 4))
    else ([], 2))
  else ([], (tsv b n).2.2)
theorem blb_le {b : List Int} {a : Nat} (hw : ∀ x ∈ b, 0 ≤ x ∧ x < 256) (ha : a ≤ b.length) : (blb b a).2.1 ≤ b.length := by
  unfold blb
  rcases sh_cases (b.drop a) 0 0 (drop_bytes hw a) (by omega) (by decide) with h | h | ⟨v, m, h, g1, g2, hv⟩
  · rw [h]; exact ha
  · rw [h]; exact ha
  · rw [List.length_drop] at g2
    rw [h]
    simp only [if_true, Int.toNat_natCast]
    by_cases c : 65536 < v
    · rw [if_pos c]; exact ha
    · rw [if_neg c]
      by_cases c2 : b.length - a - m < v
      · rw [if_pos c2]; exact ha
      · rw [if_neg c2]; show a + m + v ≤ b.length; omega
theorem nblob {b : List Int} (hw : ∀ x ∈ b, 0 ≤ x ∧ x < 256) (hl : b.length ≤ 1000000) {a : Nat} (ha : a ≤ b.length) (on : Int) :
    ∃ O : Int, Ev (fun k => num_Reader_Blob.f k b a 0 on 65536) ((blb b a).1, (((blb b a).2.1 : Nat) : Int), (blb b a).2.2, O) := by
  have hs := short_f (b.drop a) (drop_bytes hw a) (by rw [List.length_drop]; omega)
  have c0 : 0 ≤ (a : Int) ∧ (a : Int) ≤ (b.length : Int) ∧ (b.length : Int) ≤ 140737488355328 := ⟨by omega, by omega, by omega⟩
  unfold num_Reader_Blob.f blb
  simp only [if_neg (show ¬ ((0 : Int) ≠ 0) by simp), if_pos c0, Int.toNat_natCast]
  rcases sh_cases (b.drop a) 0 0 (drop_bytes hw a) (by omega) (by decide) with h | h | ⟨v, m, h, g1, g2, hv⟩
  · rw [h] at hs ⊢
    refine ⟨a, Ev.bind hs ?_⟩
    simp only [if_pos (show ((2 : Int) ≠ 0) by decide), if_neg (show ¬ ((2 : Int) = 0) by decide)]
    exact Ev.now _
  · rw [h] at hs ⊢
    refine ⟨a, Ev.bind hs ?_⟩
    simp only [if_pos (show ((4 : Int) ≠ 0) by decide), if_neg (show ¬ ((4 : Int) = 0) by decide)]
    exact Ev.now _
  · rw [List.length_drop] at g2
    rw [h] at hs ⊢
    have e1 : 0 ≤ (m : Int) ∧ (a : Int) + (m : Int) ≤ (b.length : Int) ∧ 0 ≤ (v : Int) ∧ (v : Int) < 18446744073709551616 := ⟨by omega, by omega, by omega, by omega⟩
    have e2 : IntKind.u64.wrap 65536 = 65536 := u64w_id (by omega) (by omega)
    simp only [if_true, Int.toNat_natCast]
    by_cases c : 65536 < v
    · rw [if_pos c]
      refine ⟨a, Ev.bind hs ?_⟩
      simp only [if_neg (show ¬ ((0 : Int) ≠ 0) by simp), if_pos e1, e2, if_pos (show ((65536 : Int) < 0 ∨ 65536 < (v : Int)) from .inr (by omega))]
      exact Ev.now _
    · rw [if_neg c]
      by_cases c2 : b.length - a - m < v
      · rw [if_pos c2]
        refine ⟨a, Ev.bind hs ?_⟩
        simp only [if_neg (show ¬ ((0 : Int) ≠ 0) by simp), if_pos e1, e2, if_neg (show ¬ ((65536 : Int) < 0 ∨ 65536 < (v : Int)) from by omega), if_pos (show (b.length : Int) - a - m < (v : Int) by omega)]
        exact Ev.now _
      · rw [if_neg c2]
        refine ⟨on, Ev.bind hs ?_⟩
        have ht : num_Reader_Take.f b ((a : Int) + (m : Int)) 0 on (v : Int) = some ((b.drop (a + m)).take v, ((a + m + v : Nat) : Int), 0, on) := by
          unfold num_Reader_Take.f
          rw [if_pos ⟨by omega, by omega, by omega⟩, if_neg (by simp), if_neg (by omega), if_neg (by omega), Int.toNat_natCast, show ((a : Int) + (m : Int)).toNat = a + m by omega, show ((a : Int) + (m : Int) + (v : Int)) = ((a + m + v : Nat) : Int) by omega]
        simp only [if_neg (show ¬ ((0 : Int) ≠ 0) by simp), if_pos e1, e2, if_neg (show ¬ ((65536 : Int) < 0 ∨ 65536 < (v : Int)) from by omega), if_neg (show ¬ (b.length : Int) - a - m < (v : Int) by omega), ht]
        exact Ev.now _
theorem rises_cons {out : List ByteArray} (h : ¬ out.length = 0) (s : ByteArray) : ∃ hl : out.length - 1 < out.length, rises out s ↔ tb (out[out.length - 1]) < tb s := by
  have hl : out.length - 1 < out.length := by omega
  refine ⟨hl, ?_⟩
  have e : out.getLast? = some out[out.length - 1] := by rw [List.getLast?_eq_getElem?, List.getElem?_eq_getElem hl]
  unfold rises
  rw [e]
  exact ⟨fun h => h _ rfl, fun h y hy => by cases hy; exact h⟩
theorem rises_nil (s : ByteArray) : rises [] s := fun y h => by cases h
end Go.Proofs.YtehbkhddbdgbcaaGreatDoor.Pure
