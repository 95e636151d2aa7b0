/- What the six ways put, in the program and in the document. -/
import Derived.Test.YtehbkhddbdgbcaaGreatDoorChPb
import Derived.Test.YtehbkhddbdgbcaaGreatDoorChLay
import Derived.Test.YtehbkhddbdgbcaaGreatDoorChGet
import Derived.Test.YtehbkhddbdgbcaaGreatDoorChDcg
namespace Go.Proofs.YtehbkhddbdgbcaaGreatDoor.Pure
open Go.RowKit Go.Proofs.YtehbkhddbdgbcaaGreatDoor.PChunkBack Go.Proofs.YtehbkhddbdgbcaaGreatDoorW.PrintWords Go.Proofs.YtehbkhddbdgbcaaGreatDoorW.PrintLast Go.Proofs.YtehbkhddbdgbcaaGreatDoorW.PrintMore
set_option linter.unusedVariables false
set_option linter.unusedSimpArgs false
theorem dictOf_len (l : List Int) (hl : l.length ≤ 65536) (hli : ∀ x ∈ l, I64 x) : (dictOf l).length ≤ 18 * l.length + 12 := by
  have hL := dl_lt l
  have hn0 := dl_len l
  have hLi : ∀ x ∈ dl l, I64 x := fun x hx => hli x ((dl_mem l x).1 hx)
  have hm : ∀ x ∈ l, x ∈ dl l := fun x hx => (dl_mem l x).2 hx
  have hf := formOf_len _ hL hLi
  obtain ⟨_, p2⟩ := places_ok hm (Nat.le_trans hn0 hl) hl
  have h10 := leb_length10 (v := (dl l).length) (by omega)
  unfold dictOf
  simp only [List.length_append, List.length_singleton]
  omega
theorem blobs_len1000 : ∀ (L : List ByteArray), (∀ s ∈ L, s.size ≤ 1000) → (blobs L).length ≤ 1010 * L.length
  | [], _ => Nat.zero_le _
  | s :: r, h => by
    have h2 := blobs_len1000 r (fun x hx => h x (by simp [hx]))
    have h3 := h s (by simp)
    have h10 := leb_length10 (v := s.size) (by omega)
    have h4 : (blob s).length = (leb s.size).length + s.size := by unfold blob; rw [List.length_append, num_PutBlobS.bs_length]
    rw [blobs, List.length_append, List.length_cons, h4]; omega
theorem textOf_len300 (l : List ByteArray) (hl : l.length ≤ 300) (hs : ∀ s ∈ l, s.size ≤ 1000) : (textOf l).length ≤ 310000 := by
  have hL := tl_asc l
  have hn0 := tl_len l
  have hb := blobs_len1000 (tl l) (fun x hx => hs x ((tl_mem l x).1 hx))
  have hm : ∀ x ∈ l, x ∈ tl l := fun x hx => (tl_mem l x).2 hx
  obtain ⟨_, p2⟩ := tplaces_ok hL hm (by omega) (by omega)
  have h10 := leb_length10 (v := (tl l).length) (by omega)
  unfold textOf
  simp only [List.length_append, List.length_singleton]
  omega
theorem deltaOf_length (l : List Int) (hn : l.length ≤ 65536) : (deltaOf l).length ≤ 8 * l.length + 11 := by
  have := deltaForm_length ((steps 0 l).map zz) (by rw [List.length_map, steps_length]; omega) (zz_u64 _ (steps_i64 l 0))
  rw [List.length_map, steps_length] at this
  exact this
theorem runForm_length (l : List Int) (hn : l.length ≤ 65536) (hw : ∀ x ∈ l, I64 x) : (runForm (runsOf l)).length ≤ 20 * l.length := by
  have hrl := runsOf_length l
  have hok := runsOf_ok l hw
  have : ∀ rs : List (Int × Nat), (∀ x ∈ rs, (-9223372036854775808 ≤ x.1 ∧ x.1 ≤ 9223372036854775807) ∧ 1 ≤ x.2 ∧ x.2 ≤ 65536) → (runForm rs).length ≤ 20 * rs.length := by
    intro rs
    induction rs with
    | nil => intro _; exact Nat.zero_le _
    | cons x rs ih =>
      intro h
      have hx := h x (by simp)
      have := ih (fun y hy => h y (by simp [hy]))
      have hz := zz_range hx.1.1 hx.1.2
      have h1 := leb_length10 (v := x.2 - 1) (by omega)
      have h2 := leb_length10 (v := (zz x.1).toNat) (by omega)
      have e : runForm (x :: rs) = leb (x.2 - 1) ++ leb (zz x.1).toNat ++ runForm rs := by simp [runForm]
      rw [e]
      simp only [List.length_append, List.length_cons]
      omega
  have := this (runsOf l) (fun x hx => by obtain ⟨h1, h2, h3⟩ := hok x hx; exact ⟨h1, h2, by omega⟩)
  omega
end Go.Proofs.YtehbkhddbdgbcaaGreatDoor.Pure
namespace Go.Proofs.YtehbkhddbdgbcaaGreatDoor.Ch
open Go.RowKit Go.Proofs.YtehbkhddbdgbcaaGreatDoorW.PrintWords Go.Proofs.YtehbkhddbdgbcaaGreatDoorW.PrintLast Go.Proofs.YtehbkhddbdgbcaaGreatDoorW.PrintMore Go.Proofs.YtehbkhddbdgbcaaGreatDoor.PChunkBack Go.Proofs.YtehbkhddbdgbcaaGreatDoor.Bits
set_option linter.unusedVariables false
/-- Values that are looked at. -/
structure Fine (l : List S40) : Prop where
  n : l.length ≤ 300
  s : ∀ v ∈ l, v.f2.size ≤ 1000
  i : ∀ v ∈ l, -9223372036854775808 ≤ v.f1 ∧ v.f1 ≤ 9223372036854775807
theorem Fine.ints {l : List S40} (h : Fine l) : (intsOf l).length ≤ 300 ∧ ∀ x ∈ intsOf l, Pure.I64 x := by
  refine ⟨Nat.le_trans (ints_le l) h.n, fun x hx => ?_⟩
  unfold intsOf at hx
  obtain ⟨v, hv, rfl⟩ := List.mem_map.1 hx
  exact h.i v (List.mem_filter.1 hv).1
theorem Fine.words {l : List S40} (h : Fine l) : (wordsOf l).length ≤ 300 ∧ ∀ x ∈ wordsOf l, x.size ≤ 1000 := by
  refine ⟨Nat.le_trans (words_le l) h.n, fun x hx => ?_⟩
  unfold wordsOf at hx
  obtain ⟨v, hv, rfl⟩ := List.mem_map.1 hx
  exact h.s v (List.mem_filter.1 hv).1
def wayOf (l : List S40) : Nat → List Int
  | 0 => Pure.plainOf (intsOf l)
  | 1 => runForm (runsOf (intsOf l))
  | 2 => Pure.deltaOf (intsOf l)
  | 3 => Pure.dictOf (intsOf l)
  | 4 => Pure.foreOf (intsOf l)
  | _ => Pure.textOf (wordsOf l)
def layOf (l : List S40) (way : Nat) : List Int := frontOf l ++ [(way : Int)] ++ wayOf l way
theorem way_len {l : List S40} (h : Fine l) (way : Nat) : (wayOf l way).length ≤ 400000 := by
  obtain ⟨h1, h2⟩ := h.ints
  obtain ⟨h3, h4⟩ := h.words
  unfold wayOf
  split
  · have := Pure.plainOf_length _ h2; omega
  · have := Pure.runForm_length _ (by omega) h2; omega
  · have := Pure.deltaOf_length (intsOf l) (by omega); omega
  · have := Pure.dictOf_len (intsOf l) (by omega) h2; omega
  · have := Pure.foreOf_length (intsOf l) (by omega) h2; omega
  · have := Pure.textOf_len300 (wordsOf l) h3 h4; omega
theorem lay_ok (w : World) (A : Option Addr) (c : Nat) (l : List S40) (hr : Kd.C k40 w A l.length l) (h : Fine l) (way : Nat) (hw : way ≤ 5) :
    Calls Tryz.prog 17 #[.slice A l.length c, .int .i64 way] w fun e w' => ∃ v, e = .returned v ∧ BytesR w' w.heap.size v (layOf l way) ∧ Below w.heap.size w w' := by
  obtain ⟨h1, h2⟩ := h.ints
  obtain ⟨h3, h4⟩ := h.words
  have hl : l.length ≤ 65536 := by have := h.n; omega
  have hP := way_len h way
  have hP2 : (wayOf l way).length ≤ 1099511627776 := by omega
  have two : ∀ (n : Nat) (f : Nat → Option (List Int × Int)) (P : List Int), Ev f (P, 0) → (∀ (k : Nat) (W : World) (A : Option Addr) (c : Nat) , (Kd.int .i64).C W A (intsOf l).length (intsOf l) → (intsOf l).length ≤ c → f k = some (P, 0) → Calls Tryz.prog n #[.slice A (intsOf l).length c] W fun e w' => ∃ v0_ : Value, e = .returned (.tuple #[v0_, .int .i64 0]) ∧ Kd.R (Kd.int .u8) 5 w' W.heap.size (fun _ => True) v0_ P ∧ Below W.heap.size W w') → PutsTo (Kd.int .i64) n (intsOf l) P := by
    intro n f P ⟨K, hK⟩ hc W A c hC hc2
    refine (hc K W A c hC hc2 (hK K (Nat.le_refl _))).mono ?_
    rintro e w' ⟨v, rfl, hR, hB⟩
    exact ⟨v, 0, rfl, hR, hB⟩
  match way, hw with
  | 0, _ =>
    have hp := two 43 _ _ ⟨(intsOf l).length + 11, fun k hk => Pure.plainput_f (intsOf l) (by omega) h2 (by omega)⟩ (fun k W A c a b e => plain_Put.calls k A c _ _ _ W a b e)
    cases hs : someNull l
    · exact lay0_no w A c l hr hl _ hp hP2 hs
    · exact lay0_yes w A c l hr hl _ hp hP2 hs
  | 1, _ =>
    have hp := two 45 (fun _ => runs_Put.f (intsOf l)) (runForm (runsOf (intsOf l))) ⟨0, fun k hk => by show runs_Put.f _ = _; unfold runs_Put.f; rw [if_neg (by omega), if_pos (show ∀ x ∈ intsOf l, -9223372036854775808 ≤ x ∧ x ≤ 9223372036854775807 from h2)]⟩ (fun k W A c a b e => runs_Put.calls A c _ _ _ W a b e)
    cases hs : someNull l
    · exact lay1_no w A c l hr hl _ hp hP2 hs
    · exact lay1_yes w A c l hr hl _ hp hP2 hs
  | 2, _ =>
    have hp := two 47 _ _ (Pure.deltaput_f (intsOf l) (by omega)) (fun k W A c a b e => delta_Put.calls k A c _ _ _ W a b e)
    cases hs : someNull l
    · exact lay2_no w A c l hr hl _ hp hP2 hs
    · exact lay2_yes w A c l hr hl _ hp hP2 hs
  | 3, _ =>
    have hp := two 49 _ _ (Pure.dictput_f (intsOf l) (by omega) h2) (fun k W A c a b e => dict_Put.calls k A c _ _ _ W a b e)
    cases hs : someNull l
    · exact lay3_no w A c l hr hl _ hp hP2 hs
    · exact lay3_yes w A c l hr hl _ hp hP2 hs
  | 4, _ =>
    have hp := two 51 _ _ (Pure.foreput_f (intsOf l) (by omega) h2) (fun k W A c a b e => fore_Put.calls k A c _ _ _ W a b e)
    cases hs : someNull l
    · exact lay4_no w A c l hr hl _ hp hP2 hs
    · exact lay4_yes w A c l hr hl _ hp hP2 hs
  | 5, _ =>
    have hp : PutsTo Kd.string 30 (wordsOf l) (Pure.textOf (wordsOf l)) := by
      intro W A c hC hc
      obtain ⟨K, hK⟩ := Pure.textput_f (wordsOf l) (by omega) (fun s hs => Nat.le_trans (h4 s hs) (by decide))
      refine (texts_Put.calls K A c _ _ _ W hC hc (hK K (Nat.le_refl _))).mono ?_
      rintro e w' ⟨v, rfl, hR, hB⟩
      exact ⟨v, 0, rfl, hR, hB⟩
    cases hs : someNull l
    · exact lay5_no w A c l hr hl _ hp hP2 hs
    · exact lay5_yes w A c l hr hl _ hp hP2 hs
end Go.Proofs.YtehbkhddbdgbcaaGreatDoor.Ch
namespace Go.Proofs.YtehbkhddbdgbcaaGreatDoor.Ch
open Go.RowKit Go.Proofs.YtehbkhddbdgbcaaGreatDoorW.PrintWords Go.Proofs.YtehbkhddbdgbcaaGreatDoorW.PrintLast Go.Proofs.YtehbkhddbdgbcaaGreatDoorW.PrintMore Go.Proofs.YtehbkhddbdgbcaaGreatDoor.PChunkBack Go.Proofs.YtehbkhddbdgbcaaGreatDoor.Bits
set_option linter.unusedVariables false
set_option linter.unusedSimpArgs false
/-- What stands ahead of the way's form: which values are nothing, the way, the form. -/
def headOf (b : List Int) (n : Nat) : Option (List Bool × Int × List Int) :=
  match b with
  | f :: t =>
    if f = 0 then (if 0 < t.length then some (List.replicate n false, t.getD 0 0, t.drop 1) else none)
    else if f = 1 ∧ (n + 7) / 8 < t.length ∧ pack (unp (t.take ((n + 7) / 8)) n) = t.take ((n + 7) / 8) ∧ 0 < cnt (unp (t.take ((n + 7) / 8)) n) n then some (unp (t.take ((n + 7) / 8)) n, t.getD ((n + 7) / 8) 0, t.drop ((n + 7) / 8 + 1))
    else none
  | [] => none
def intv (way : Int) (rest : List Int) (m : Int) : List Int × Int := if way = 0 then Pure.getv rest m else if way = 1 then Pure.rgetv rest m else if way = 2 then Pure.deltav rest m else if way = 3 then Pure.dictv rest m else Pure.forev rest m
def bodyOf (kind n : Int) (x : List Bool) (way : Int) (rest : List Int) : Option (List S40 × Int) :=
  if kind = 2 then
    (if way = 5 ∧ (Pure.textv rest ((x.length : Int) - cnt x x.length)).2 = 0 ∧ (Pure.textv rest ((x.length : Int) - cnt x x.length)).1.length + cnt x x.length = x.length then some (outW x (Pure.textv rest ((x.length : Int) - cnt x x.length)).1 x.length, 0) else none)
  else (if (0 ≤ way ∧ way ≤ 4) ∧ (intv way rest ((x.length : Int) - cnt x x.length)).2 = 0 ∧ (intv way rest ((x.length : Int) - cnt x x.length)).1.length + cnt x x.length = x.length then some (outI x (intv way rest ((x.length : Int) - cnt x x.length)).1 x.length, 0) else none)
def getOf (k : Nat) (b : List Int) (kind n : Int) : Option (List S40 × Int) :=
  if (b.length ≤ 1000000 ∧ ∀ x ∈ b, 0 ≤ x ∧ x < 256) ∧ (0 ≤ n ∧ n ≤ 65536) ∧ (kind = 1 ∨ kind = 2) then (headOf b n.toNat).bind fun h => bodyOf kind n h.1 h.2.1 h.2.2 else none
theorem gets_of {α : Type} {d : Kd α} {e n : Nat} {rest : List Int} {m : Int} {xs : List α} {f : Nat → Option (List α × Int)} (hf : Ev f (xs, 0))
    (hc : ∀ (k : Nat) (W : World) (A : Option Addr) (c : Nat), (Kd.int .u8).C W A rest.length rest → rest.length ≤ c → HG W → f k = some (xs, 0) → Calls Tryz.prog n #[.slice A rest.length c, .int .i64 m] W fun e' w' => ∃ v0_ : Value, e' = .returned (.tuple #[v0_, .int .i64 0]) ∧ Kd.R d e w' W.heap.size (fun _ => True) v0_ xs ∧ Below W.heap.size W w') : GetsTo d e n rest m xs := by
  obtain ⟨K, hK⟩ := hf
  intro W A c hC hc2 hG
  exact hc K W A c hC hc2 hG (hK K (Nat.le_refl _))
theorem gets_texts {rest : List Int} (hw : ∀ x ∈ rest, 0 ≤ x ∧ x < 256) (hl : rest.length ≤ 1000000) {m : Int} (h : (Pure.textv rest m).2 = 0) : GetsTo Kd.string 9 21 rest m (Pure.textv rest m).1 := by
  intro W A c hC hc hG
  refine (txg_any W A c rest m hw hl hC hc hG).mono ?_
  rintro e w' ⟨v, rfl, hR, hB⟩
  exact ⟨v, by rw [h], hR, hB⟩
theorem gets_ints {rest : List Int} (hw : ∀ x ∈ rest, 0 ≤ x ∧ x < 256) (hl : rest.length ≤ 1000000) {m way : Int} (hy : 0 ≤ way ∧ way ≤ 4) (h : (intv way rest m).2 = 0) : GetsTo (Kd.int .i64) 2 (getNo way) rest m (intv way rest m).1 := by
  have pr : ∀ {p : List Int × Int}, p.2 = 0 → p = (p.1, 0) := fun {p} h => by obtain ⟨a, b⟩ := p; simp only at h; rw [h]
  rcases ways hy with rfl | rfl | rfl | rfl | rfl
  · have e : intv 0 rest m = Pure.getv rest m := rfl
    rw [e] at h ⊢
    have hf := Pure.pget_f hw (by omega) m
    rw [pr h] at hf
    exact gets_of hf (fun k W A c a b g e => plain_Get.calls k A c _ _ _ _ W a b g e)
  · have e : intv 1 rest m = Pure.rgetv rest m := rfl
    rw [e] at h ⊢
    have hf := Pure.nrget_f hw (by omega) m
    rw [pr h] at hf
    exact gets_of hf (fun k W A c a b g e => runs_Get.calls k A c _ _ _ _ W a b g e)
  · have e : intv 2 rest m = Pure.deltav rest m := rfl
    rw [e] at h ⊢
    have hf := Pure.deltaget_f hw hl m
    rw [pr h] at hf
    exact gets_of hf (fun k W A c a b g e => delta_Get.calls k A c _ _ _ _ W a b g e)
  · have e : intv 3 rest m = Pure.dictv rest m := rfl
    rw [e] at h ⊢
    intro W A c hC hc hG
    refine (dcg_any W A c rest m hw hl hC hc hG).mono ?_
    rintro e w' ⟨v, rfl, hR, hB⟩
    exact ⟨v, by rw [h], hR, hB⟩
  · have e : intv 4 rest m = Pure.forev rest m := rfl
    rw [e] at h ⊢
    have hf := Pure.fore_f hw hl m
    rw [pr h] at hf
    exact gets_of hf (fun k W A c a b g e => fore_Get.calls k A c _ _ _ _ W a b g e)
theorem unp_len (l : List Int) (n : Nat) : (unp l n).length = n := by simp [unp]
/-- The head is what the front reads. -/
theorem head_ok {b : List Int} (hw : ∀ x ∈ b, 0 ≤ x ∧ x < 256) (hl : b.length ≤ 1000000) {n : Nat} (hn : n ≤ 65536) {x : List Bool} {y : Int} {rest : List Int} (h : headOf b n = some (x, y, rest)) :
    x.length = n ∧ ∃ at_, FrontTo b x y at_ ∧ b.drop at_ = rest ∧ at_ ≤ b.length := by
  match b, h with
  | f :: t, h =>
    simp only [headOf] at h
    by_cases h0 : f = 0
    · rw [if_pos h0] at h
      by_cases h1 : 0 < t.length
      · rw [if_pos h1] at h
        match t, h1, h with
        | z :: r, _, h =>
          simp only [Option.some.injEq, Prod.mk.injEq, List.getD_cons_zero, List.drop_succ_cons, List.drop_zero] at h
          obtain ⟨rfl, rfl, rfl⟩ := h
          subst h0
          refine ⟨by simp, 2, ?_, rfl, by simp⟩
          intro w0 w g hI hB
          rw [List.length_replicate]
          exact front_no w0 w g n z r hI hB hn (hw z (by simp)) (by simp at hl; omega)
      · rw [if_neg h1] at h; cases h
    · rw [if_neg h0] at h
      by_cases h1 : f = 1 ∧ (n + 7) / 8 < t.length ∧ pack (unp (t.take ((n + 7) / 8)) n) = t.take ((n + 7) / 8) ∧ 0 < cnt (unp (t.take ((n + 7) / 8)) n) n
      · rw [if_pos h1] at h
        obtain ⟨rfl, h2, h3, h4⟩ := h1
        simp only [Option.some.injEq, Prod.mk.injEq] at h
        obtain ⟨hx, hy, hr⟩ := h
        rw [hx] at h3 h4
        have hxl : x.length = n := by rw [← hx]; exact unp_len _ _
        have ht : t = pack x ++ y :: rest := by
          rw [h3, ← hy, ← hr, List.getD_eq_getElem?_getD, List.getElem?_eq_getElem h2, Option.getD_some]
          conv => lhs; rw [← List.take_append_drop ((n + 7) / 8) t, List.drop_eq_getElem_cons h2]
        have hyb : 0 ≤ y ∧ y < 256 := hw y (by rw [ht]; simp)
        have hpl := pack_len x
        refine ⟨hxl, 1 + (x.length + 7) / 8 + 1, ?_, ?_, ?_⟩
        · intro w0 w g hI hB
          rw [ht] at hI ⊢
          exact front_yes w0 w g x y rest hI hB (by omega) (by rw [hxl]; exact h4) hyb (by have : rest.length ≤ t.length := by rw [ht]; simp; omega
                                                                                           simp at hl; omega)
        · rw [ht, show 1 + (x.length + 7) / 8 + 1 = ((pack x).length + 1) + 1 from by omega, List.drop_succ_cons, List.drop_append, List.drop_of_length_le (by omega)]
          simp
        · simp only [List.length_cons]; rw [hxl]; omega
      · rw [if_neg h1] at h; cases h
theorem get_ok (k : Nat) (w : World) (A0 : Option Addr) (c0 : Nat) (b : List Int) (kind n : Int) (r1 : List S40) (r2 : Int) (hr : Kd.C (Kd.int .u8) w A0 b.length b) (hc : b.length ≤ c0) (hG : HG w) (h : getOf k b kind n = some (r1, r2)) :
    Calls Tryz.prog 10 #[.slice A0 b.length c0, .int .i64 kind, .int .i64 n] w fun e w' => ∃ v0_ : Value, e = .returned (.tuple #[v0_, .int .i64 r2]) ∧ Kd.R k40 40 w' w.heap.size (fun _ => True) v0_ r1 ∧ Below w.heap.size w w' := by
  unfold getOf at h
  by_cases hg : (b.length ≤ 1000000 ∧ ∀ x ∈ b, 0 ≤ x ∧ x < 256) ∧ (0 ≤ n ∧ n ≤ 65536) ∧ (kind = 1 ∨ kind = 2)
  case neg => rw [if_neg hg] at h; cases h
  rw [if_pos hg] at h
  obtain ⟨⟨hl, hw⟩, ⟨hn0, hn1⟩, hk⟩ := hg
  obtain ⟨⟨x, way, rest⟩, hh, hb⟩ := Option.bind_eq_some_iff.1 h
  obtain ⟨N, rfl⟩ := Int.eq_ofNat_of_zero_le hn0
  rw [Int.toNat_natCast] at hh
  obtain ⟨hxl, at_, hF, hd, ha⟩ := head_ok hw hl (by omega) hh
  have hwr : ∀ z ∈ rest, 0 ≤ z ∧ z < 256 := fun z hz => hw z (by rw [← hd] at hz; exact List.mem_of_mem_drop hz)
  have hlr : rest.length ≤ 1000000 := by rw [← hd, List.length_drop]; omega
  unfold bodyOf at hb
  dsimp only at hb
  subst hxl
  rcases hk with rfl | rfl
  · rw [if_neg (by decide)] at hb
    split at hb
    case isFalse => cases hb
    rename_i hh2
    obtain ⟨h1, h2, h3⟩ := hh2
    injection hb with hb
    injection hb with e1 e2
    subst e1
    subst e2
    exact get_ints w A0 c0 b rest x _ at_ way hr hc hG hF (by omega) (by omega) hd ha h1 (gets_ints hwr hlr h1 h2) h3
  · rw [if_pos rfl] at hb
    split at hb
    case isFalse => cases hb
    rename_i hh2
    obtain ⟨rfl, h2, h3⟩ := hh2
    injection hb with hb
    injection hb with e1 e2
    subst e1
    subst e2
    exact get_texts w A0 c0 b rest x _ at_ hr hc hG hF (by omega) (by omega) hd ha (gets_texts hwr hlr h2) h3
end Go.Proofs.YtehbkhddbdgbcaaGreatDoor.Ch
