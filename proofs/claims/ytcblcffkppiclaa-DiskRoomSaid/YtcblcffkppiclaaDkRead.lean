/- Read. -/
import Derived.Test.YtcblcffkppiclaaDkDeed
namespace Go.Proofs.Ytcblcffkppiclaa.Dk
open Go.RowKit Go.Maps Go.Proofs.Ytcblcffkppiclaa.DkMap Go.Proofs.YtcblcffkppiclaaW.PrintWords Go.Proofs.YtcblcffkppiclaaW.PrintLast Go.Proofs.YtcblcffkppiclaaW.PrintMore Go.Proofs.Ytcblcffkppiclaa.PDiskNil
attribute [local go_sem] max2_int min2_int max_two min_two max_three min_three max_four min_four
set_option linter.unusedVariables false
set_option linter.unusedSimpArgs false
def read (s : St) (n : List UInt8) : List Int × Int :=
  if s.down = true then ([], 15) else if isName n = false then ([], 1) else match get s.fl n with
    | none => ([], 8)
    | some x => (x.b, 0)
theorem C_of_cells {w : World} {A : Option Addr} {ad : Addr} {l : List Int} (hA : A = some ad) (hl : l.length ≤ 9223372036854775807) (h : ∀ j, j < l.length → w.cell? (ad.add j) = some (.int .u8 (l.getD j 0))) : (Kd.int .u8).C w A l.length l :=
  Kd.C_of_reads (enc := Value.int .u8) (d := (0 : Int)) (h1 := fun _ => rfl) ⟨rfl, hl, fun _ => ⟨ad, hA, h⟩⟩
theorem add0 (g j : Nat) : (Addr.add ⟨g, 0, none⟩ j) = ⟨g, j, none⟩ := by by_cases h0 : j = 0 <;> simp [Addr.add, h0]
theorem FRow.C {w : World} {tag : Tags} {s : List UInt8} {v : Value} {xs : List Int} (h : FRow w tag s v xs) : ∃ A c, v = .slice A xs.length c ∧ xs.length ≤ c ∧ (Kd.int .u8).C w A xs.length xs := by
  rcases h with ⟨rfl, rfl⟩ | ⟨R, cap, cur, rfl, h2, h3, h4, h5, h6, h7⟩
  · exact ⟨none, 0, rfl, Nat.le_refl _, ⟨rfl, by simp, fun h => absurd h (by simp)⟩⟩
  · unfold maxLen at h5
    refine ⟨_, cap, rfl, h3, C_of_cells rfl (by omega) (fun j hj => ?_)⟩
    rw [add0]
    exact pre_cell h2 h6 (by rw [List.getD_eq_getElem?_getD, List.getElem?_eq_getElem hj]; rfl)
section
variable (w : World) (tag : Tags) (p : Nat) (st : St) (h : Dsk Try.prog w tag p st)
include h
set_option maxHeartbeats 4000000 in
theorem Read_ok (s : ByteArray) (hs : s.size ≤ maxLen) : Calls Try.prog 13 #[.pointer (some ⟨p, 0, none⟩), .string s] w fun e w' =>
    ∃ v, e = .returned (.tuple #[v, .int .i64 (read st s.data.toList).2]) ∧ (∃ B, w.heap.size ≤ B ∧ (Kd.int .u8).R 5 w' B (fun _ => True) v (read st s.data.toList).1) ∧ Below w.heap.size w w' := by
  have c4 := Dsk.cells h
  have H := Aside0.mk h
  cases hd : st.down
  · rw [hd] at c4
    by_cases hx : isName s.data.toList = false ∨ get st.fl s.data.toList = none
    · have hE : ∃ e, e = (if isName s.data.toList = false then (1 : Int) else 8) ∧ (e = 1 ∨ e = 8) := ⟨_, rfl, by split <;> simp⟩
      obtain ⟨e0, he0, he1⟩ := hE
      have hne2 : ¬ e0 = 0 := by omega
      have hR : read st s.data.toList = ([], e0) := by
        unfold read
        rw [if_neg (by rw [hd]; simp), he0]
        by_cases hn : isName s.data.toList = false
        · rw [if_pos hn, if_pos hn]
        · rw [if_neg hn, if_neg hn, hx.resolve_left hn]
      rw [hR]
      have HX := Aside0.mk hx
      have HE := Aside0.mk he0
      clear hx he0 hR he1 h
      go_enter Try.func13, Try.ntmps13
      go_wp2_with (go_at_call 31; (with_reducible refine (find_dsk _ _ _ _ H.out s hs e0 HE.out HX.out).mono ?_); rintro e w2 ⟨rfl, hb⟩; have B2 := Aside0.mk hb; clear hb)
      go_ret2
      exact ⟨_, rfl, ⟨_, Nat.le_refl _, Kd.R_nil _ _ _ _ _⟩, B2.out⟩
    · simp only [not_or, Bool.not_eq_false] at hx
      obtain ⟨hn, hg⟩ := hx
      obtain ⟨x, hx⟩ := Option.ne_none_iff_exists'.1 hg
      have hR : read st s.data.toList = (x.b, 0) := by
        unfold read
        rw [if_neg (by rw [hd]; simp), if_neg (by rw [hn]; simp), hx]
      rw [hR]
      obtain ⟨hok, M, D, F, hD⟩ := h
      obtain ⟨k, hk, hfb⟩ := hD.file _ _ hx
      have hux := get_used hx
      have hfits := hok.fits
      have hroom := hok.room
      have HD := Aside0.mk hD
      have HK := Aside0.mk hk
      have HF := Aside0.mk hfb
      have hcl : bytes_Clone.f x.b = some x.b := by unfold bytes_Clone.f; rw [if_pos (by omega)]
      have HCL := Aside0.mk hcl
      clear hx hg hR hok hD hk hfb hcl
      go_enter Try.func13, Try.ntmps13
      go_wp2_with (first
        | (go_at_call 31; (with_reducible refine (find_ok _ HD.out s hs hn k HK.out).mono ?_); rintro e w2 ⟨rfl, hb⟩; obtain ⟨v, e1, e2, e3⟩ := HF.out.same (w' := w2) (tag' := tag) (fun j hj => hb.block j (by rcases hj with hj | hj <;> exact Dk.ltag HD.out hj)) (fun _ _ _ h => h); obtain ⟨A, c, rfl, hc, hC⟩ := FRow.C e3; have f0 : w2.cell? ⟨k, 0, none⟩ = some (.slice A x.b.length c) := ((blk_cell e1 0).trans rfl); have CC := Aside0.mk hC; have B2 := Aside0.mk hb; clear hb e1 e2 e3 hC)
        | (go_at_call 32; (with_reducible refine (bytes_Clone.calls A c x.b x.b w2 CC.out hc HCL.out).mono ?_); rintro e w3 ⟨v0, rfl, hr, hb⟩; have RR := Aside0.mk hr; have B3 := Aside0.mk hb; clear hr hb))
      go_ret2
      exact ⟨_, rfl, ⟨_, B2.out.size, RR.out⟩, below_step B2.out B3.out⟩
  · have hR : read st s.data.toList = ([], 15) := by unfold read; rw [if_pos hd]
    rw [hR]
    rw [hd] at c4
    clear hR h
    go_enter Try.func13, Try.ntmps13
    go_wp2
    go_ret2
    exact ⟨_, rfl, ⟨_, Nat.le_refl _, Kd.R_nil _ _ _ _ _⟩, Below.refl _ _⟩
omit h in
set_option maxHeartbeats 4000000 in
theorem Read_nil (s : Value) : Calls Try.prog 13 #[.pointer none, s] w fun e w' => e = .returned (.tuple #[.slice none 0 0, .int .i64 1]) ∧ w = w' := by
  go_enter Try.func13, Try.ntmps13
  go_wp2
  go_ret2
  exact ⟨rfl, rfl⟩
end
end Go.Proofs.Ytcblcffkppiclaa.Dk
