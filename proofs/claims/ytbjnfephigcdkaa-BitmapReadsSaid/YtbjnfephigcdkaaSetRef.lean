/- What the document's answers for bitmap compute: the bytes of marks, and a place's rank. -/
import Derived.Test.YtbjnfephigcdkaaSetAwake
namespace Go.Proofs.Ytbjnfephigcdkaa.Bits
open Go.RowKit Go.Proofs.YtbjnfephigcdkaaW.PrintWords Go.Proofs.YtbjnfephigcdkaaW.PrintLast Go.Proofs.YtbjnfephigcdkaaW.PrintMore Go.Proofs.Ytbjnfephigcdkaa.PBitmapPlays
set_option linter.unusedVariables false
set_option linter.unusedSimpArgs false
theorem rdOf_nat (x : List Bool) (j : Nat) : rdOf false x (j : Int) = x.getD j false := rfl
theorem refRank_l0 (x : List Bool) (i : Int) (hx : x.length ≤ 65536) : ∀ (d j : Nat), clamp x i = j + d → Ev (fun k => estreatref07_Rank.l0 k x i (cnt x j) j) (cnt x (clamp x i) : Int) := by
  have hc : clamp x i ≤ x.length := by unfold clamp; omega
  intro d
  induction d with
  | zero =>
    intro j hj
    rw [hj, Nat.add_zero]
    have hout : Ev (fun k => estreatref07_Rank.j1 k x i (cnt x j) j false) (cnt x j : Int) := Ev.step (fun k => by simp only [estreatref07_Rank.j1]; rw [if_neg (by decide)]) (Ev.now _)
    refine Ev.step (f := fun k => estreatref07_Rank.j1 k x i (cnt x j) j false) (fun k => ?_) hout
    simp only [estreatref07_Rank.l0]
    by_cases h : (j : Int) < x.length
    · rw [if_pos h, decide_eq_false]
      unfold clamp at hj
      omega
    · rw [if_neg h]
  | succ d ih =>
    intro j hj
    have h1 : (j : Int) < x.length := by omega
    have h2 : (j : Int) < i := by unfold clamp at hj; omega
    have hn := ih (j + 1) (by omega)
    have b1 := cnt_le x j
    rw [cnt_succ] at hn
    have e1 : wrap64 ((j : Int) + 1) = ((j + 1 : Nat) : Int) := by rw [w64 (by omega) (by omega)]; rfl
    have hin : Ev (fun k => estreatref07_Rank.j1 k x i (cnt x j) j true) (cnt x (clamp x i) : Int) := by
      refine Ev.step (fun k => ?_) hn
      simp only [estreatref07_Rank.j1]
      rw [if_pos trivial, if_pos (by omega), if_pos h1, rdOf_nat, e1]
      cases x.getD j false
      · rw [if_neg (by decide)]; simp
      · rw [if_pos rfl, w64 (by omega) (by omega)]; simp
    refine Ev.step (fun k => ?_) hin
    simp only [estreatref07_Rank.l0]
    rw [if_pos h1, decide_eq_true h2]
theorem refRank (x : List Bool) (i : Int) (hx : x.length ≤ 65536) : Ev (fun k => estreatref07_Rank.f k x i) (cnt x (clamp x i) : Int) := by
  have := refRank_l0 x i hx (clamp x i) 0 (by omega)
  exact this
/-- A byte's first bits. -/
def ps (x : List Bool) (k : Nat) : Nat → Int
  | 0 => 0
  | q + 1 => ps x k q + (if x.getD (8 * k + q) false then 2 ^ q else 0)
theorem ps_bd (x : List Bool) (k : Nat) : ∀ q, 0 ≤ ps x k q ∧ ps x k q < 2 ^ q := by
  intro q
  induction q with
  | zero => exact ⟨Int.le_refl _, show (0 : Int) < 2 ^ 0 by decide⟩
  | succ q ih =>
    have hp : (2 : Int) ^ (q + 1) = 2 * 2 ^ q := by rw [Int.pow_succ]; omega
    unfold ps
    rw [hp]
    generalize (2 : Int) ^ q = p at *
    split <;> omega
theorem ps_8 (x : List Bool) (k : Nat) : ps x k 8 = byteAt x k := by
  unfold byteAt byteOf
  simp only [ps, Nat.add_zero]
  cases x.getD (8 * k) false <;> cases x.getD (8 * k + 1) false <;> cases x.getD (8 * k + 2) false <;> cases x.getD (8 * k + 3) false <;> cases x.getD (8 * k + 4) false <;> cases x.getD (8 * k + 5) false <;> cases x.getD (8 * k + 6) false <;> cases x.getD (8 * k + 7) false <;> rfl
theorem ps_end (x : List Bool) (k q : Nat) (h : x.length ≤ 8 * k + q) : ∀ d, ps x k (q + d) = ps x k q := by
  intro d
  induction d with
  | zero => rfl
  | succ d ih =>
    have e : ps x k (q + (d + 1)) = ps x k (q + d) + (if x.getD (8 * k + (q + d)) false then 2 ^ (q + d) else 0) := rfl
    rw [e, ih]
    have hx : x.getD (8 * k + (q + d)) false = false := by
      rw [List.getD, List.getElem?_eq_none (by omega)]; rfl
    rw [hx]
    simp
theorem refBytes_l1 (x : List Bool) (out : List Int) (k : Nat) (R : List Int) (hx : x.length ≤ 65536) (hk : 8 * k < x.length) (ho : out.length < 140737488355328)
    (H : Ev (fun n => estreatref07_Bytes.l0 n x (out ++ [byteAt x k]) ((8 * (k + 1) : Nat) : Int)) R) : ∀ (d q : Nat), 8 = q + d → Ev (fun n => estreatref07_Bytes.l1 n x out ((8 * k : Nat) : Int) (ps x k q) (2 ^ q) ((8 * k + q : Nat) : Int)) R := by
  have e8 : wrap64 (((8 * k : Nat) : Int) + 8) = ((8 * (k + 1) : Nat) : Int) := by rw [w64 (by omega) (by omega)]; omega
  have hout : ∀ q p, ps x k q = byteAt x k → Ev (fun n => estreatref07_Bytes.j2 n x out ((8 * k : Nat) : Int) (ps x k q) p ((8 * k + q : Nat) : Int) false) R := by
    intro q p hq
    refine Ev.step (fun n => ?_) H
    have hb := ps_bd x k 8
    rw [ps_8] at hb
    simp only [estreatref07_Bytes.j2]
    rw [if_neg (by decide), if_pos ho, e8, hq, show byteAt x k % 256 = byteAt x k from by omega]
  intro d
  induction d with
  | zero =>
    intro q hq
    obtain rfl : q = 8 := by omega
    refine Ev.step (fun n => ?_) (hout 8 (2 ^ 8) (ps_8 x k))
    simp only [estreatref07_Bytes.l1]
    rw [if_neg (by rw [e8]; omega)]
  | succ d ih =>
    intro q hq
    have hn := ih (q + 1) (by omega)
    have hb := ps_bd x k q
    have hp : (2 : Int) ^ q ≤ 128 := by
      have : q ≤ 7 := by omega
      match q, this with
      | 0, _ => decide
      | 1, _ => decide
      | 2, _ => decide
      | 3, _ => decide
      | 4, _ => decide
      | 5, _ => decide
      | 6, _ => decide
      | 7, _ => decide
    have h1 : ((8 * k + q : Nat) : Int) < wrap64 (((8 * k : Nat) : Int) + 8) := by rw [e8]; omega
    by_cases h2 : 8 * k + q < x.length
    · have hps : ps x k (q + 1) = ps x k q + (if x.getD (8 * k + q) false then 2 ^ q else 0) := rfl
      have hpw : (2 : Int) ^ (q + 1) = 2 * 2 ^ q := by rw [Int.pow_succ]; omega
      rw [hps, hpw] at hn
      have e1 : wrap64 (((8 * k + q : Nat) : Int) + 1) = ((8 * k + (q + 1) : Nat) : Int) := by rw [w64 (by omega) (by omega)]; omega
      have hp0 : (0 : Int) ≤ 2 ^ q := by omega
      generalize (2 : Int) ^ q = p at *
      have hin : Ev (fun n => estreatref07_Bytes.j2 n x out ((8 * k : Nat) : Int) (ps x k q) p ((8 * k + q : Nat) : Int) true) R := by
        refine Ev.step (fun n => ?_) hn
        simp only [estreatref07_Bytes.j2]
        rw [if_pos trivial, if_pos (by omega), if_pos (by omega), rdOf_nat, e1, w64 (n := 2 * p) (by omega) (by omega)]
        cases x.getD (8 * k + q) false
        · rw [if_neg (by decide)]; simp
        · rw [if_pos rfl, w64 (by omega) (by omega)]; simp
      refine Ev.step (fun n => ?_) hin
      simp only [estreatref07_Bytes.l1]
      rw [if_pos h1, decide_eq_true (by omega)]
    · have hq8 : ps x k q = byteAt x k := by
        have := ps_end x k q (by omega) (8 - q)
        rw [show q + (8 - q) = 8 from by omega, ps_8] at this
        exact this.symm
      refine Ev.step (fun n => ?_) (hout q (2 ^ q) hq8)
      simp only [estreatref07_Bytes.l1]
      rw [if_pos h1, decide_eq_false (by omega)]
theorem refBytes_l0 (x : List Bool) (hx : x.length ≤ 65536) : ∀ (d k : Nat), (x.length + 7) / 8 = k + d → Ev (fun n => estreatref07_Bytes.l0 n x ((pack x).take k) ((8 * k : Nat) : Int)) (pack x) := by
  intro d
  induction d with
  | zero =>
    intro k hk
    rw [List.take_of_length_le (by rw [pack_len]; omega)]
    refine Ev.step (fun n => ?_) (Ev.now _)
    simp only [estreatref07_Bytes.l0]
    rw [if_neg (by omega)]
  | succ d ih =>
    intro k hk
    have hlt : 8 * k < x.length := by omega
    have hn := ih (k + 1) (by omega)
    have hkl : k < (pack x).length := by rw [pack_len]; omega
    rw [List.take_succ_eq_append_getElem hkl, show (pack x)[k] = byteAt x k from by simp [pack]] at hn
    have := refBytes_l1 x ((pack x).take k) k (pack x) hx hlt (by rw [List.length_take, pack_len]; omega) hn 8 0 rfl
    refine Ev.step (fun n => ?_) this
    simp only [estreatref07_Bytes.l0]
    rw [if_pos (by omega)]
    rfl
theorem refBytes (x : List Bool) (hx : x.length ≤ 65536) : Ev (fun n => estreatref07_Bytes.f n x) (pack x) := refBytes_l0 x hx ((x.length + 7) / 8) 0 (by omega)
theorem byte_small (x : List Bool) (k r : Nat) (hx : x.length ≤ 8 * k + r) (hr : r ≤ 8) : 0 ≤ byteAt x k ∧ byteAt x k < 2 ^ r := by
  have h := ps_end x k r hx (8 - r)
  rw [show r + (8 - r) = 8 from by omega, ps_8] at h
  rw [h]
  exact ps_bd x k r
theorem pack_get (x : List Bool) (k : Nat) (hk : k < (x.length + 7) / 8) : (pack x).getD k 0 = byteAt x k := by simp [pack, List.getD, hk]
theorem readErr_pack (x : List Bool) (hx : x.length ≤ 65536) : readErr (pack x) x.length = 0 := by
  unfold readErr
  rw [if_neg (by omega), pack_len, if_neg (by omega), if_neg (by omega), if_neg]
  rintro ⟨h1, h2⟩
  apply h2
  have hk : (x.length + 7) / 8 - 1 < (x.length + 7) / 8 := by omega
  rw [pack_get x _ hk, show ((x.length : Int) % 8).toNat = x.length % 8 from by omega]
  have hb := byte_small x ((x.length + 7) / 8 - 1) (x.length % 8) (by omega) (by omega)
  exact Int.ediv_eq_zero_of_lt hb.1 hb.2
theorem bit2_of : ∀ (r : Fin 8) (a b c d e f g h : Bool), (byteOf a b c d e f g h / 2 ^ r.1 % 2 == 1) = (bits BinOp.and IntKind.u8 (byteOf a b c d e f g h / 2 ^ r.1) 1 == 1) := by
  decide +kernel
theorem unp_pack (x : List Bool) : unp (pack x) x.length = x := by
  unfold unp
  apply List.ext_getElem
  · simp
  · intro i h1 h2
    have hk : i / 8 < (x.length + 7) / 8 := by omega
    rw [List.getElem_map, List.getElem_range, pack_get x _ hk]
    have h := bit_at x i
    have h' := bit2_of ⟨i % 8, by omega⟩ (x.getD (8 * (i / 8)) false) (x.getD (8 * (i / 8) + 1) false) (x.getD (8 * (i / 8) + 2) false) (x.getD (8 * (i / 8) + 3) false) (x.getD (8 * (i / 8) + 4) false) (x.getD (8 * (i / 8) + 5) false) (x.getD (8 * (i / 8) + 6) false) (x.getD (8 * (i / 8) + 7) false)
    refine Eq.trans h' ?_
    refine Eq.trans h ?_
    simp [List.getD, h2]
theorem pack_bd (x : List Bool) : ∀ v ∈ pack x, 0 ≤ v ∧ v < 256 := by
  intro v hv
  obtain ⟨k, _, rfl⟩ := List.mem_map.1 hv
  have h := ps_bd x k 8
  rw [ps_8] at h
  exact h
theorem Read_pack (W : World) (A : Option Addr) (c : Nat) (x : List Bool) (hr : (Kd.int .u8).C W A (pack x).length (pack x)) (hx : x.length ≤ 65536) :
    Calls Try.prog 38 #[.slice A (pack x).length c, .int .i64 x.length] W fun e w' => ∃ g b, e = .returned (.tuple #[.pointer (some ⟨g, 0, none⟩), .int .i64 0]) ∧ IsSet w' g b x ∧ W.heap.size ≤ g ∧ W.heap.size ≤ b ∧ Below W.heap.size W w' := by
  refine (Read_any W A (pack x) c x.length hr (pack_bd x)).mono ?_
  intro e w' h
  unfold ReadPost at h
  rw [if_pos (readErr_pack x hx)] at h
  obtain ⟨g, b, rfl, hS, _, _, _, h1, h2, h3⟩ := h
  rw [show (x.length : Int).toNat = x.length from rfl, unp_pack] at hS
  exact ⟨g, b, rfl, hS, h1, h2, h3⟩
theorem refRank_any (W : World) (A : Option Addr) (c : Nat) (x : List Bool) (i : Int) (hr : Kd.bool.C W A x.length x) (hc : x.length ≤ c) (hx : x.length ≤ 65536) :
    Calls Try.prog 56 #[.slice A x.length c, .int .i64 i] W fun e w' => e = .returned (.int .i64 (cnt x (clamp x i))) ∧ Drawn0 W w' := by
  obtain ⟨k, hk⟩ := (refRank x i hx).rounds
  exact estreatref07_Rank.calls k A c x i _ W hr hc hk
theorem refBytes_any (W : World) (A : Option Addr) (c : Nat) (x : List Bool) (hr : Kd.bool.C W A x.length x) (hc : x.length ≤ c) (hx : x.length ≤ 65536) :
    Calls Try.prog 41 #[.slice A x.length c] W fun e w' => ∃ v : Value, e = .returned v ∧ (Kd.int .u8).R 5 w' W.heap.size (fun _ => True) v (pack x) ∧ Below W.heap.size W w' := by
  obtain ⟨k, hk⟩ := (refBytes x hx).rounds
  exact estreatref07_Bytes.calls k A c x _ W hr hc hk
end Go.Proofs.Ytbjnfephigcdkaa.Bits
