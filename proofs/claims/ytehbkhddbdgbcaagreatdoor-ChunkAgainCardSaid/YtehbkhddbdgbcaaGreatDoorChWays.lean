/- What the six ways put, in the program and in the document. -/
import Derived.Test.YtehbkhddbdgbcaaGreatDoorChPe
import Derived.Test.YtehbkhddbdgbcaaGreatDoorChLay
namespace Go.Proofs.YtehbkhddbdgbcaaGreatDoor.Pure
open Go.RowKit Go.Proofs.YtehbkhddbdgbcaaGreatDoor.PChunkBack Go.Proofs.YtehbkhddbdgbcaaGreatDoorW.PrintWords Go.Proofs.YtehbkhddbdgbcaaGreatDoorW.PrintLast Go.Proofs.YtehbkhddbdgbcaaGreatDoorW.PrintMore
set_option linter.unusedVariables false
set_option linter.unusedSimpArgs false
theorem dictOf_len (l : List Int) (hl : l.length ≤ 65536) (hli : ∀ x ∈ l, I64 x) : (dictOf l).length ≤ 18 * l.length + 12 := by
  have hL := dl_lt l
  have hn0 := dl_len l
  have hLi : ∀ x ∈ dl l, I64 x := fun x hx => hli x ((dl_mem l x).1 hx)
  have hm : ∀ x ∈ l, x ∈ dl l := fun x hx => (dl_mem l x).2 hx
  have hf := formOf_len _ hL hLi
  obtain ⟨_, p2⟩ := places_ok hm (Nat.le_trans hn0 hl) hl
  have h10 := leb_length10 (v := (dl l).length) (by omega)
  unfold dictOf
  simp only [List.length_append, List.length_singleton]
  omega
theorem blobs_len1000 : ∀ (L : List ByteArray), (∀ s ∈ L, s.size ≤ 1000) → (blobs L).length ≤ 1010 * L.length
  | [], _ => Nat.zero_le _
  | s :: r, h => by
    have h2 := blobs_len1000 r (fun x hx => h x (by simp [hx]))
    have h3 := h s (by simp)
    have h10 := leb_length10 (v := s.size) (by omega)
    have h4 : (blob s).length = (leb s.size).length + s.size := by unfold blob; rw [List.length_append, num_PutBlobS.bs_length]
    rw [blobs, List.length_append, List.length_cons, h4]; omega
theorem textOf_len300 (l : List ByteArray) (hl : l.length ≤ 300) (hs : ∀ s ∈ l, s.size ≤ 1000) : (textOf l).length ≤ 310000 := by
  have hL := tl_asc l
  have hn0 := tl_len l
  have hb := blobs_len1000 (tl l) (fun x hx => hs x ((tl_mem l x).1 hx))
  have hm : ∀ x ∈ l, x ∈ tl l := fun x hx => (tl_mem l x).2 hx
  obtain ⟨_, p2⟩ := tplaces_ok hL hm (by omega) (by omega)
  have h10 := leb_length10 (v := (tl l).length) (by omega)
  unfold textOf
  simp only [List.length_append, List.length_singleton]
  omega
theorem deltaOf_length (l : List Int) (hn : l.length ≤ 65536) : (deltaOf l).length ≤ 8 * l.length + 11 := by
  have := deltaForm_length ((steps 0 l).map zz) (by rw [List.length_map, steps_length]; omega) (zz_u64 _ (steps_i64 l 0))
  rw [List.length_map, steps_length] at this
  exact this
theorem runForm_length (l : List Int) (hn : l.length ≤ 65536) (hw : ∀ x ∈ l, I64 x) : (runForm (runsOf l)).length ≤ 20 * l.length := by
  have hrl := runsOf_length l
  have hok := runsOf_ok l hw
  have : ∀ rs : List (Int × Nat), (∀ x ∈ rs, (-9223372036854775808 ≤ x.1 ∧ x.1 ≤ 9223372036854775807) ∧ 1 ≤ x.2 ∧ x.2 ≤ 65536) → (runForm rs).length ≤ 20 * rs.length := by
    intro rs
    induction rs with
    | nil => intro _; exact Nat.zero_le _
    | cons x rs ih =>
      intro h
      have hx := h x (by simp)
      have := ih (fun y hy => h y (by simp [hy]))
      have hz := zz_range hx.1.1 hx.1.2
      have h1 := leb_length10 (v := x.2 - 1) (by omega)
      have h2 := leb_length10 (v := (zz x.1).toNat) (by omega)
      have e : runForm (x :: rs) = leb (x.2 - 1) ++ leb (zz x.1).toNat ++ runForm rs := by simp [runForm]
      rw [e]
      simp only [List.length_append, List.length_cons]
      omega
  have := this (runsOf l) (fun x hx => by obtain ⟨h1, h2, h3⟩ := hok x hx; exact ⟨h1, h2, by omega⟩)
  omega
end Go.Proofs.YtehbkhddbdgbcaaGreatDoor.Pure
namespace Go.Proofs.YtehbkhddbdgbcaaGreatDoor.Ch
open Go.RowKit Go.Proofs.YtehbkhddbdgbcaaGreatDoorW.PrintWords Go.Proofs.YtehbkhddbdgbcaaGreatDoorW.PrintLast Go.Proofs.YtehbkhddbdgbcaaGreatDoorW.PrintMore Go.Proofs.YtehbkhddbdgbcaaGreatDoor.PChunkBack Go.Proofs.YtehbkhddbdgbcaaGreatDoor.Bits
set_option linter.unusedVariables false
/-- Values that are looked at. -/
structure Fine (l : List S40) : Prop where
  n : l.length ≤ 300
  s : ∀ v ∈ l, v.f2.size ≤ 1000
  i : ∀ v ∈ l, -9223372036854775808 ≤ v.f1 ∧ v.f1 ≤ 9223372036854775807
theorem Fine.ints {l : List S40} (h : Fine l) : (intsOf l).length ≤ 300 ∧ ∀ x ∈ intsOf l, Pure.I64 x := by
  refine ⟨Nat.le_trans (ints_le l) h.n, fun x hx => ?_⟩
  unfold intsOf at hx
  obtain ⟨v, hv, rfl⟩ := List.mem_map.1 hx
  exact h.i v (List.mem_filter.1 hv).1
theorem Fine.words {l : List S40} (h : Fine l) : (wordsOf l).length ≤ 300 ∧ ∀ x ∈ wordsOf l, x.size ≤ 1000 := by
  refine ⟨Nat.le_trans (words_le l) h.n, fun x hx => ?_⟩
  unfold wordsOf at hx
  obtain ⟨v, hv, rfl⟩ := List.mem_map.1 hx
  exact h.s v (List.mem_filter.1 hv).1
def wayOf (l : List S40) : Nat → List Int
  | 0 => Pure.plainOf (intsOf l)
  | 1 => runForm (runsOf (intsOf l))
  | 2 => Pure.deltaOf (intsOf l)
  | 3 => Pure.dictOf (intsOf l)
  | 4 => Pure.foreOf (intsOf l)
  | _ => Pure.textOf (wordsOf l)
def layOf (l : List S40) (way : Nat) : List Int := frontOf l ++ [(way : Int)] ++ wayOf l way
theorem way_len {l : List S40} (h : Fine l) (way : Nat) : (wayOf l way).length ≤ 400000 := by
  obtain ⟨h1, h2⟩ := h.ints
  obtain ⟨h3, h4⟩ := h.words
  unfold wayOf
  split
  · have := Pure.plainOf_length _ h2; omega
  · have := Pure.runForm_length _ (by omega) h2; omega
  · have := Pure.deltaOf_length (intsOf l) (by omega); omega
  · have := Pure.dictOf_len (intsOf l) (by omega) h2; omega
  · have := Pure.foreOf_length (intsOf l) (by omega) h2; omega
  · have := Pure.textOf_len300 (wordsOf l) h3 h4; omega
theorem lay_ok (w : World) (A : Option Addr) (c : Nat) (l : List S40) (hr : Kd.C k40 w A l.length l) (h : Fine l) (way : Nat) (hw : way ≤ 5) :
    Calls Tryz.prog 17 #[.slice A l.length c, .int .i64 way] w fun e w' => ∃ v, e = .returned v ∧ BytesR w' w.heap.size v (layOf l way) ∧ Below w.heap.size w w' := by
  obtain ⟨h1, h2⟩ := h.ints
  obtain ⟨h3, h4⟩ := h.words
  have hl : l.length ≤ 65536 := by have := h.n; omega
  have hP := way_len h way
  have hP2 : (wayOf l way).length ≤ 1099511627776 := by omega
  have two : ∀ (n : Nat) (f : Nat → Option (List Int × Int)) (P : List Int), Ev f (P, 0) → (∀ (k : Nat) (W : World) (A : Option Addr) (c : Nat) , (Kd.int .i64).C W A (intsOf l).length (intsOf l) → (intsOf l).length ≤ c → f k = some (P, 0) → Calls Tryz.prog n #[.slice A (intsOf l).length c] W fun e w' => ∃ v0_ : Value, e = .returned (.tuple #[v0_, .int .i64 0]) ∧ Kd.R (Kd.int .u8) 5 w' W.heap.size (fun _ => True) v0_ P ∧ Below W.heap.size W w') → PutsTo (Kd.int .i64) n (intsOf l) P := by
    intro n f P ⟨K, hK⟩ hc W A c hC hc2
    refine (hc K W A c hC hc2 (hK K (Nat.le_refl _))).mono ?_
    rintro e w' ⟨v, rfl, hR, hB⟩
    exact ⟨v, 0, rfl, hR, hB⟩
  match way, hw with
  | 0, _ =>
    have hp := two 43 _ _ ⟨(intsOf l).length + 11, fun k hk => Pure.plainput_f (intsOf l) (by omega) h2 (by omega)⟩ (fun k W A c a b e => plain_Put.calls k A c _ _ _ W a b e)
    cases hs : someNull l
    · exact lay0_no w A c l hr hl _ hp hP2 hs
    · exact lay0_yes w A c l hr hl _ hp hP2 hs
  | 1, _ =>
    have hp := two 45 (fun _ => runs_Put.f (intsOf l)) (runForm (runsOf (intsOf l))) ⟨0, fun k hk => by show runs_Put.f _ = _; unfold runs_Put.f; rw [if_neg (by omega), if_pos (show ∀ x ∈ intsOf l, -9223372036854775808 ≤ x ∧ x ≤ 9223372036854775807 from h2)]⟩ (fun k W A c a b e => runs_Put.calls A c _ _ _ W a b e)
    cases hs : someNull l
    · exact lay1_no w A c l hr hl _ hp hP2 hs
    · exact lay1_yes w A c l hr hl _ hp hP2 hs
  | 2, _ =>
    have hp := two 47 _ _ (Pure.deltaput_f (intsOf l) (by omega)) (fun k W A c a b e => delta_Put.calls k A c _ _ _ W a b e)
    cases hs : someNull l
    · exact lay2_no w A c l hr hl _ hp hP2 hs
    · exact lay2_yes w A c l hr hl _ hp hP2 hs
  | 3, _ =>
    have hp := two 49 _ _ (Pure.dictput_f (intsOf l) (by omega) h2) (fun k W A c a b e => dict_Put.calls k A c _ _ _ W a b e)
    cases hs : someNull l
    · exact lay3_no w A c l hr hl _ hp hP2 hs
    · exact lay3_yes w A c l hr hl _ hp hP2 hs
  | 4, _ =>
    have hp := two 51 _ _ (Pure.foreput_f (intsOf l) (by omega) h2) (fun k W A c a b e => fore_Put.calls k A c _ _ _ W a b e)
    cases hs : someNull l
    · exact lay4_no w A c l hr hl _ hp hP2 hs
    · exact lay4_yes w A c l hr hl _ hp hP2 hs
  | 5, _ =>
    have hp : PutsTo Kd.string 30 (wordsOf l) (Pure.textOf (wordsOf l)) := by
      intro W A c hC hc
      obtain ⟨K, hK⟩ := Pure.textput_f (wordsOf l) (by omega) (fun s hs => Nat.le_trans (h4 s hs) (by decide))
      refine (texts_Put.calls K A c _ _ _ W hC hc (hK K (Nat.le_refl _))).mono ?_
      rintro e w' ⟨v, rfl, hR, hB⟩
      exact ⟨v, 0, rfl, hR, hB⟩
    cases hs : someNull l
    · exact lay5_no w A c l hr hl _ hp hP2 hs
    · exact lay5_yes w A c l hr hl _ hp hP2 hs
end Go.Proofs.YtehbkhddbdgbcaaGreatDoor.Ch
