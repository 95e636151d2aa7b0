/- What the six ways put, in the program and in the document. -/
import Derived.Test.YtefcchpjbojdkaaGreatDoorChPureC
import Derived.Test.YtefcchpjbojdkaaGreatDoorChLay
namespace Go.Proofs.YtefcchpjbojdkaaGreatDoor.Pure
open Go.RowKit Go.Proofs.YtefcchpjbojdkaaGreatDoor.PChunkPuts Go.Proofs.YtefcchpjbojdkaaGreatDoorW.PrintWords Go.Proofs.YtefcchpjbojdkaaGreatDoorW.PrintLast Go.Proofs.YtefcchpjbojdkaaGreatDoorW.PrintMore
set_option linter.unusedVariables false
set_option linter.unusedSimpArgs false
theorem dictOf_len (l : List Int) (hl : l.length ≤ 65536) (hli : ∀ x ∈ l, I64 x) : (dictOf l).length ≤ 18 * l.length + 12 := by
  have hL := dl_lt l
  have hn0 := dl_len l
  have hLi : ∀ x ∈ dl l, I64 x := fun x hx => hli x ((dl_mem l x).1 hx)
  have hm : ∀ x ∈ l, x ∈ dl l := fun x hx => (dl_mem l x).2 hx
  have hf := formOf_len _ hL hLi
  obtain ⟨_, p2⟩ := places_ok hm (Nat.le_trans hn0 hl) hl
  have h10 := leb_length10 (v := (dl l).length) (by omega)
  unfold dictOf
  simp only [List.length_append, List.length_singleton]
  omega
theorem textOf_len (l : List ByteArray) (hl : l.length ≤ 65536) (hs : ∀ s ∈ l, s.size ≤ 65536) : (textOf l).length ≤ 70020 * l.length + 20 := by
  have hL := tl_asc l
  have hn0 := tl_len l
  have hLs : ∀ x ∈ tl l, x.size ≤ 65536 := fun x hx => hs x ((tl_mem l x).1 hx)
  have hm : ∀ x ∈ l, x ∈ tl l := fun x hx => (tl_mem l x).2 hx
  have hf := blobs_len _ hLs
  obtain ⟨_, p2⟩ := tplaces_ok hL hm (Nat.le_trans hn0 hl) hl
  have h10 := leb_length10 (v := (tl l).length) (by omega)
  unfold textOf
  simp only [List.length_append, List.length_singleton]
  omega
theorem deltaOf_length (l : List Int) (hn : l.length ≤ 65536) : (deltaOf l).length ≤ 8 * l.length + 11 := by
  have := deltaForm_length ((steps 0 l).map zz) (by rw [List.length_map, steps_length]; omega) (zz_u64 _ (steps_i64 l 0))
  rw [List.length_map, steps_length] at this
  exact this
theorem refrunsput_f (l : List Int) (hn : l.length ≤ 65536) (hw : ∀ x ∈ l, I64 x) : Ev (fun k => estreatref09_Put.f k l) (runForm (runsOf l)) := by
  have hrl := runsOf_length l
  have hok := runsOf_ok l hw
  unfold estreatref09_Put.f
  refine Ev.bind (refruns_f l (by omega)) ?_
  have := refput_l0 (runsOf l) (by omega) (fun x hx => by obtain ⟨h1, h2, h3⟩ := hok x hx; exact ⟨h1, h2, by omega⟩) (runsOf l).length 0 [] (by omega) (by simp)
  simpa using this
theorem runForm_length (l : List Int) (hn : l.length ≤ 65536) (hw : ∀ x ∈ l, I64 x) : (runForm (runsOf l)).length ≤ 20 * l.length := by
  have hrl := runsOf_length l
  have hok := runsOf_ok l hw
  have : ∀ rs : List (Int × Nat), (∀ x ∈ rs, (-9223372036854775808 ≤ x.1 ∧ x.1 ≤ 9223372036854775807) ∧ 1 ≤ x.2 ∧ x.2 ≤ 65536) → (runForm rs).length ≤ 20 * rs.length := by
    intro rs
    induction rs with
    | nil => intro _; exact Nat.zero_le _
    | cons x rs ih =>
      intro h
      have hx := h x (by simp)
      have := ih (fun y hy => h y (by simp [hy]))
      have hz := zz_range hx.1.1 hx.1.2
      have h1 := leb_length10 (v := x.2 - 1) (by omega)
      have h2 := leb_length10 (v := (zz x.1).toNat) (by omega)
      have e : runForm (x :: rs) = leb (x.2 - 1) ++ leb (zz x.1).toNat ++ runForm rs := by simp [runForm]
      rw [e]
      simp only [List.length_append, List.length_cons]
      omega
  have := this (runsOf l) (fun x hx => by obtain ⟨h1, h2, h3⟩ := hok x hx; exact ⟨h1, h2, by omega⟩)
  omega
end Go.Proofs.YtefcchpjbojdkaaGreatDoor.Pure
namespace Go.Proofs.YtefcchpjbojdkaaGreatDoor.Ch
open Go.RowKit Go.Proofs.YtefcchpjbojdkaaGreatDoorW.PrintWords Go.Proofs.YtefcchpjbojdkaaGreatDoorW.PrintLast Go.Proofs.YtefcchpjbojdkaaGreatDoorW.PrintMore Go.Proofs.YtefcchpjbojdkaaGreatDoor.PChunkPuts Go.Proofs.YtefcchpjbojdkaaGreatDoor.Bits
set_option linter.unusedVariables false
/-- Values that are looked at. -/
structure Fine (l : List S34) : Prop where
  n : l.length ≤ 100
  s : ∀ v ∈ l, v.f2.size ≤ 100
  i : ∀ v ∈ l, -9223372036854775808 ≤ v.f1 ∧ v.f1 ≤ 9223372036854775807
theorem Fine.ints {l : List S34} (h : Fine l) : (intsOf l).length ≤ 100 ∧ ∀ x ∈ intsOf l, Pure.I64 x := by
  refine ⟨Nat.le_trans (ints_le l) h.n, fun x hx => ?_⟩
  unfold intsOf at hx
  obtain ⟨v, hv, rfl⟩ := List.mem_map.1 hx
  exact h.i v (List.mem_filter.1 hv).1
theorem Fine.words {l : List S34} (h : Fine l) : (wordsOf l).length ≤ 100 ∧ ∀ x ∈ wordsOf l, x.size ≤ 100 := by
  refine ⟨Nat.le_trans (words_le l) h.n, fun x hx => ?_⟩
  unfold wordsOf at hx
  obtain ⟨v, hv, rfl⟩ := List.mem_map.1 hx
  exact h.s v (List.mem_filter.1 hv).1
def wayOf (l : List S34) : Nat → List Int
  | 0 => Pure.plainOf (intsOf l)
  | 1 => runForm (runsOf (intsOf l))
  | 2 => Pure.deltaOf (intsOf l)
  | 3 => Pure.dictOf (intsOf l)
  | 4 => Pure.foreOf (intsOf l)
  | _ => Pure.textOf (wordsOf l)
def layOf (l : List S34) (way : Nat) : List Int := frontOf l ++ [(way : Int)] ++ wayOf l way
theorem way_len {l : List S34} (h : Fine l) (way : Nat) : (wayOf l way).length ≤ 8000000 := by
  obtain ⟨h1, h2⟩ := h.ints
  obtain ⟨h3, h4⟩ := h.words
  unfold wayOf
  split
  · have := Pure.plainOf_length _ h2; omega
  · have := Pure.runForm_length _ (by omega) h2; omega
  · have := Pure.deltaOf_length (intsOf l) (by omega); omega
  · have := Pure.dictOf_len (intsOf l) (by omega) h2; omega
  · have := Pure.foreOf_length (intsOf l) (by omega) h2; omega
  · have := Pure.textOf_len (wordsOf l) (by omega) (fun s hs => Nat.le_trans (h4 s hs) (by decide)); omega
theorem lay_ok (w : World) (A : Option Addr) (c : Nat) (l : List S34) (hr : Kd.C k34 w A l.length l) (h : Fine l) (way : Nat) (hw : way ≤ 5) :
    Calls Tryz.prog 14 #[.slice A l.length c, .int .i64 way] w fun e w' => ∃ v, e = .returned v ∧ BytesR w' w.heap.size v (layOf l way) ∧ Below w.heap.size w w' := by
  obtain ⟨h1, h2⟩ := h.ints
  obtain ⟨h3, h4⟩ := h.words
  have hl : l.length ≤ 65536 := by have := h.n; omega
  have hP := way_len h way
  have hP2 : (wayOf l way).length ≤ 1099511627776 := by omega
  have two : ∀ (n : Nat) (f : Nat → Option (List Int × Int)) (P : List Int), Ev f (P, 0) → (∀ (k : Nat) (W : World) (A : Option Addr) (c : Nat) , (Kd.int .i64).C W A (intsOf l).length (intsOf l) → (intsOf l).length ≤ c → f k = some (P, 0) → Calls Tryz.prog n #[.slice A (intsOf l).length c] W fun e w' => ∃ v0_ : Value, e = .returned (.tuple #[v0_, .int .i64 0]) ∧ Kd.R (Kd.int .u8) 5 w' W.heap.size (fun _ => True) v0_ P ∧ Below W.heap.size W w') → PutsTo (Kd.int .i64) n (intsOf l) P := by
    intro n f P ⟨K, hK⟩ hc W A c hC hc2
    refine (hc K W A c hC hc2 (hK K (Nat.le_refl _))).mono ?_
    rintro e w' ⟨v, rfl, hR, hB⟩
    exact ⟨v, 0, rfl, hR, hB⟩
  match way, hw with
  | 0, _ =>
    have hp := two 44 _ _ ⟨(intsOf l).length + 11, fun k hk => Pure.plainput_f (intsOf l) (by omega) h2 (by omega)⟩ (fun k W A c a b e => plain_Put.calls k A c _ _ _ W a b e)
    cases hs : someNull l
    · exact lay0_no w A c l hr hl _ hp hP2 hs
    · exact lay0_yes w A c l hr hl _ hp hP2 hs
  | 1, _ =>
    have hp := two 46 (fun _ => runs_Put.f (intsOf l)) (runForm (runsOf (intsOf l))) ⟨0, fun k hk => by show runs_Put.f _ = _; unfold runs_Put.f; rw [if_neg (by omega), if_pos (show ∀ x ∈ intsOf l, -9223372036854775808 ≤ x ∧ x ≤ 9223372036854775807 from h2)]⟩ (fun k W A c a b e => runs_Put.calls A c _ _ _ W a b e)
    cases hs : someNull l
    · exact lay1_no w A c l hr hl _ hp hP2 hs
    · exact lay1_yes w A c l hr hl _ hp hP2 hs
  | 2, _ =>
    have hp := two 48 _ _ (Pure.deltaput_f (intsOf l) (by omega)) (fun k W A c a b e => delta_Put.calls k A c _ _ _ W a b e)
    cases hs : someNull l
    · exact lay2_no w A c l hr hl _ hp hP2 hs
    · exact lay2_yes w A c l hr hl _ hp hP2 hs
  | 3, _ =>
    have hp := two 50 _ _ (Pure.dictput_f (intsOf l) (by omega) h2) (fun k W A c a b e => dict_Put.calls k A c _ _ _ W a b e)
    cases hs : someNull l
    · exact lay3_no w A c l hr hl _ hp hP2 hs
    · exact lay3_yes w A c l hr hl _ hp hP2 hs
  | 4, _ =>
    have hp := two 52 _ _ (Pure.foreput_f (intsOf l) (by omega) h2) (fun k W A c a b e => fore_Put.calls k A c _ _ _ W a b e)
    cases hs : someNull l
    · exact lay4_no w A c l hr hl _ hp hP2 hs
    · exact lay4_yes w A c l hr hl _ hp hP2 hs
  | 5, _ =>
    have hp : PutsTo Kd.string 22 (wordsOf l) (Pure.textOf (wordsOf l)) := by
      intro W A c hC hc
      obtain ⟨K, hK⟩ := Pure.textput_f (wordsOf l) (by omega) (fun s hs => Nat.le_trans (h4 s hs) (by decide))
      refine (texts_Put.calls K A c _ _ _ W hC hc (hK K (Nat.le_refl _))).mono ?_
      rintro e w' ⟨v, rfl, hR, hB⟩
      exact ⟨v, 0, rfl, hR, hB⟩
    cases hs : someNull l
    · exact lay5_no w A c l hr hl _ hp hP2 hs
    · exact lay5_yes w A c l hr hl _ hp hP2 hs
end Go.Proofs.YtefcchpjbojdkaaGreatDoor.Ch
namespace Go.Proofs.YtefcchpjbojdkaaGreatDoor.Bits
open Go.RowKit Go.Proofs.YtefcchpjbojdkaaGreatDoorW.PrintWords Go.Proofs.YtefcchpjbojdkaaGreatDoorW.PrintLast Go.Proofs.YtefcchpjbojdkaaGreatDoorW.PrintMore Go.Proofs.YtefcchpjbojdkaaGreatDoor.PChunkPuts
set_option linter.unusedVariables false
set_option linter.unusedSimpArgs false
theorem rdOf_nat (x : List Bool) (j : Nat) : rdOf false x (j : Int) = x.getD j false := rfl
/-- A byte's first bits. -/
def ps (x : List Bool) (k : Nat) : Nat → Int
  | 0 => 0
  | q + 1 => ps x k q + (if x.getD (8 * k + q) false then 2 ^ q else 0)
theorem ps_bd (x : List Bool) (k : Nat) : ∀ q, 0 ≤ ps x k q ∧ ps x k q < 2 ^ q := by
  intro q
  induction q with
  | zero => exact ⟨Int.le_refl _, show (0 : Int) < 2 ^ 0 by decide⟩
  | succ q ih =>
    have hp : (2 : Int) ^ (q + 1) = 2 * 2 ^ q := by rw [Int.pow_succ]; omega
    unfold ps
    rw [hp]
    generalize (2 : Int) ^ q = p at *
    split <;> omega
theorem ps_8 (x : List Bool) (k : Nat) : ps x k 8 = byteAt x k := by
  unfold byteAt byteOf
  simp only [ps, Nat.add_zero]
  cases x.getD (8 * k) false <;> cases x.getD (8 * k + 1) false <;> cases x.getD (8 * k + 2) false <;> cases x.getD (8 * k + 3) false <;> cases x.getD (8 * k + 4) false <;> cases x.getD (8 * k + 5) false <;> cases x.getD (8 * k + 6) false <;> cases x.getD (8 * k + 7) false <;> rfl
theorem ps_end (x : List Bool) (k q : Nat) (h : x.length ≤ 8 * k + q) : ∀ d, ps x k (q + d) = ps x k q := by
  intro d
  induction d with
  | zero => rfl
  | succ d ih =>
    have e : ps x k (q + (d + 1)) = ps x k (q + d) + (if x.getD (8 * k + (q + d)) false then 2 ^ (q + d) else 0) := rfl
    rw [e, ih]
    have hx : x.getD (8 * k + (q + d)) false = false := by
      rw [List.getD, List.getElem?_eq_none (by omega)]; rfl
    rw [hx]
    simp
theorem refBytes_l1 (x : List Bool) (out : List Int) (k : Nat) (R : List Int) (hx : x.length ≤ 65536) (hk : 8 * k < x.length) (ho : out.length < 140737488355328)
    (H : Ev (fun n => estreatref07_Bytes.l0 n x (out ++ [byteAt x k]) ((8 * (k + 1) : Nat) : Int)) R) : ∀ (d q : Nat), 8 = q + d → Ev (fun n => estreatref07_Bytes.l1 n x out ((8 * k : Nat) : Int) (ps x k q) (2 ^ q) ((8 * k + q : Nat) : Int)) R := by
  have e8 : wrap64 (((8 * k : Nat) : Int) + 8) = ((8 * (k + 1) : Nat) : Int) := by rw [w64 (by omega) (by omega)]; omega
  have hout : ∀ q p, ps x k q = byteAt x k → Ev (fun n => estreatref07_Bytes.j2 n x out ((8 * k : Nat) : Int) (ps x k q) p ((8 * k + q : Nat) : Int) false) R := by
    intro q p hq
    refine Ev.step (fun n => ?_) H
    have hb := ps_bd x k 8
    rw [ps_8] at hb
    simp only [estreatref07_Bytes.j2]
    rw [if_neg (by decide), if_pos ho, e8, hq, show byteAt x k % 256 = byteAt x k from by omega]
  intro d
  induction d with
  | zero =>
    intro q hq
    obtain rfl : q = 8 := by omega
    refine Ev.step (fun n => ?_) (hout 8 (2 ^ 8) (ps_8 x k))
    simp only [estreatref07_Bytes.l1]
    rw [if_neg (by rw [e8]; omega)]
  | succ d ih =>
    intro q hq
    have hn := ih (q + 1) (by omega)
    have hb := ps_bd x k q
    have hp : (2 : Int) ^ q ≤ 128 := by
      have : q ≤ 7 := by omega
      match q, this with
      | 0, _ => decide
      | 1, _ => decide
      | 2, _ => decide
      | 3, _ => decide
      | 4, _ => decide
      | 5, _ => decide
      | 6, _ => decide
      | 7, _ => decide
    have h1 : ((8 * k + q : Nat) : Int) < wrap64 (((8 * k : Nat) : Int) + 8) := by rw [e8]; omega
    by_cases h2 : 8 * k + q < x.length
    · have hps : ps x k (q + 1) = ps x k q + (if x.getD (8 * k + q) false then 2 ^ q else 0) := rfl
      have hpw : (2 : Int) ^ (q + 1) = 2 * 2 ^ q := by rw [Int.pow_succ]; omega
      rw [hps, hpw] at hn
      have e1 : wrap64 (((8 * k + q : Nat) : Int) + 1) = ((8 * k + (q + 1) : Nat) : Int) := by rw [w64 (by omega) (by omega)]; omega
      have hp0 : (0 : Int) ≤ 2 ^ q := by omega
      generalize (2 : Int) ^ q = p at *
      have hin : Ev (fun n => estreatref07_Bytes.j2 n x out ((8 * k : Nat) : Int) (ps x k q) p ((8 * k + q : Nat) : Int) true) R := by
        refine Ev.step (fun n => ?_) hn
        simp only [estreatref07_Bytes.j2]
        rw [if_pos trivial, if_pos (by omega), if_pos (by omega), rdOf_nat, e1, w64 (n := 2 * p) (by omega) (by omega)]
        cases x.getD (8 * k + q) false
        · rw [if_neg (by decide)]; simp
        · rw [if_pos rfl, w64 (by omega) (by omega)]; simp
      refine Ev.step (fun n => ?_) hin
      simp only [estreatref07_Bytes.l1]
      rw [if_pos h1, decide_eq_true (by omega)]
    · have hq8 : ps x k q = byteAt x k := by
        have := ps_end x k q (by omega) (8 - q)
        rw [show q + (8 - q) = 8 from by omega, ps_8] at this
        exact this.symm
      refine Ev.step (fun n => ?_) (hout q (2 ^ q) hq8)
      simp only [estreatref07_Bytes.l1]
      rw [if_pos h1, decide_eq_false (by omega)]
theorem refBytes_l0 (x : List Bool) (hx : x.length ≤ 65536) : ∀ (d k : Nat), (x.length + 7) / 8 = k + d → Ev (fun n => estreatref07_Bytes.l0 n x ((pack x).take k) ((8 * k : Nat) : Int)) (pack x) := by
  intro d
  induction d with
  | zero =>
    intro k hk
    rw [List.take_of_length_le (by rw [pack_len]; omega)]
    refine Ev.step (fun n => ?_) (Ev.now _)
    simp only [estreatref07_Bytes.l0]
    rw [if_neg (by omega)]
  | succ d ih =>
    intro k hk
    have hlt : 8 * k < x.length := by omega
    have hn := ih (k + 1) (by omega)
    have hkl : k < (pack x).length := by rw [pack_len]; omega
    rw [List.take_succ_eq_append_getElem hkl, show (pack x)[k] = byteAt x k from by simp [pack]] at hn
    have := refBytes_l1 x ((pack x).take k) k (pack x) hx hlt (by rw [List.length_take, pack_len]; omega) hn 8 0 rfl
    refine Ev.step (fun n => ?_) this
    simp only [estreatref07_Bytes.l0]
    rw [if_pos (by omega)]
    rfl
theorem refBytes (x : List Bool) (hx : x.length ≤ 65536) : Ev (fun n => estreatref07_Bytes.f n x) (pack x) := refBytes_l0 x hx ((x.length + 7) / 8) 0 (by omega)
end Go.Proofs.YtefcchpjbojdkaaGreatDoor.Bits
