/- Append; a deed; Sync; Read. -/
import Derived.Test.YtcblcffkppiclaaDkPuts
namespace Go.Proofs.Ytcblcffkppiclaa.Dk
open Go.RowKit Go.Maps Go.Proofs.Ytcblcffkppiclaa.DkMap Go.Proofs.YtcblcffkppiclaaW.PrintWords Go.Proofs.YtcblcffkppiclaaW.PrintLast Go.Proofs.YtcblcffkppiclaaW.PrintMore
attribute [local go_sem] max2_int min2_int max_two min_two max_three min_three max_four min_four
set_option linter.unusedVariables false
set_option linter.unusedSimpArgs false
section
variable {w w' : World} {tag tag' : Tags} {p : Nat} {st : St}
theorem Dsk.cells (h : Dsk Try.prog w tag p st) : w.cell? ⟨p, 4, none⟩ = some (.bool st.down) := by
  obtain ⟨_, M, D, F, h⟩ := h
  exact (Dk.cells h).2.2.2.2
theorem Dsk.below (h : Dsk Try.prog w tag p st) (hb : Below w.heap.size w w') : Dsk Try.prog w' tag p st := by
  obtain ⟨h1, M, D, F, h⟩ := h
  exact ⟨h1, M, D, F, IsDk.below h hb⟩
end
section
variable (w : World) (tag : Tags) (p : Nat) (st : St) (h : Dsk Try.prog w tag p st)
include h
theorem spent_dsk : Calls Try.prog 23 #[.pointer (some ⟨p, 0, none⟩)] w fun e w' => e = .returned (.bool (fails st)) ∧ Dsk Try.prog w' tag p (burn st) ∧ Turn w w' tag tag := by
  obtain ⟨hok, M, D, F, h⟩ := h
  refine (spent_ok w tag p M D F _ st h hok.fuse1).mono ?_
  rintro e w' ⟨rfl, h1, h2⟩
  exact ⟨rfl, ⟨Ok_burn hok, M, D, F, by rw [burn_fl]; exact h1⟩, h2⟩
theorem fail_dsk : Calls Try.prog 25 #[.pointer (some ⟨p, 0, none⟩)] w fun e w' => e = .returned (.int .i64 15) ∧ Dsk Try.prog w' tag p { st with down := true } ∧ Turn w w' tag tag := by
  obtain ⟨hok, M, D, F, h⟩ := h
  refine (fail_ok w tag p M D F _ st h).mono ?_
  rintro e w' ⟨rfl, h1, h2⟩
  exact ⟨rfl, ⟨Ok_down hok true, M, D, F, h1⟩, h2⟩
theorem Fuse_dsk (n : Int) (hn : n ≤ 9223372036854775807) : Calls Try.prog 11 #[.pointer (some ⟨p, 0, none⟩), .int .i64 n] w fun e w' => e = .returned (.tuple #[]) ∧ Dsk Try.prog w' tag p { st with fuse := max n (-1) } ∧ Turn w w' tag tag := by
  obtain ⟨hok, M, D, F, h⟩ := h
  refine (Fuse_ok w tag p M D F _ st h n).mono ?_
  rintro e w' ⟨rfl, h1, h2⟩
  exact ⟨rfl, ⟨⟨hok.apart, hok.sure, hok.fits, hok.room, by simp; omega, by simp; omega, hok.few⟩, M, D, F, h1⟩, h2⟩
set_option maxHeartbeats 4000000 in
theorem Append_ok (s : ByteArray) (hs : s.size ≤ maxLen) (A : Option Addr) (b : List Int) (c : Nat) (hA : Arg w tag A c b) (hb0 : b.length ≤ 1099511627776) :
    Calls Try.prog 9 #[.pointer (some ⟨p, 0, none⟩), .string s, .slice A b.length c] w fun e w' => ∃ tag', e = .returned (.int .i64 (append st s.data.toList b).1) ∧ Dsk Try.prog w' tag' p (append st s.data.toList b).2 ∧ Turn w w' tag tag' := by
  have c4 := Dsk.cells h
  have H := Aside0.mk h
  have HA := Aside0.mk hA
  clear h hA
  unfold append
  cases hd : st.down
  · rw [if_neg (by simp)]
    rw [hd] at c4
    cases hf : fails st
    · rw [if_neg (by simp)]
      go_enter Try.func9, Try.ntmps9
      go_wp2_with (first
        | (go_at_call 23; (with_reducible refine (spent_dsk _ _ _ _ H.out).mono ?_); rintro e w1 ⟨he, h1, t1⟩; rw [hf] at he; subst he; have hA1 := HA.out.turn t1; have H1 := Aside0.mk h1; have T1 := Aside0.mk t1; have HA1 := Aside0.mk hA1; clear hA1 h1 t1)
        | (go_at_call 24; (with_reducible refine (put_ok _ _ _ _ H1.out s hs A b c HA1.out hb0).mono ?_); rintro e w2 ⟨tag', rfl, h2, t2⟩; have H2 := Aside0.mk h2; have T2 := Aside0.mk t2; clear h2 t2))
      go_ret
      exact ⟨tag', rfl, H2.out, T1.out.trans T2.out⟩
    · rw [if_pos rfl]
      go_enter Try.func9, Try.ntmps9
      go_wp2_with (first
        | (go_at_call 23; (with_reducible refine (spent_dsk _ _ _ _ H.out).mono ?_); rintro e w1 ⟨he, h1, t1⟩; rw [hf] at he; subst he; have hA1 := HA.out.turn t1; have H1 := Aside0.mk h1; have T1 := Aside0.mk t1; have HA1 := Aside0.mk hA1; clear hA1 h1 t1)
        | (go_at_call 24; (with_reducible refine (put_ok _ _ _ _ H1.out s hs A b c HA1.out hb0).mono ?_); rintro e w2 ⟨tag', rfl, h2, t2⟩; have H2 := Aside0.mk h2; have T2 := Aside0.mk t2; clear h2 t2)
        | (go_at_call 25; (with_reducible refine (fail_dsk _ _ _ _ H2.out).mono ?_); rintro e w3 ⟨rfl, h3, t3⟩; have H3 := Aside0.mk h3; have T3 := Aside0.mk t3; clear h3 t3))
      go_ret
      exact ⟨tag', rfl, H3.out, T1.out.trans (T2.out.trans T3.out)⟩
  · rw [if_pos rfl]
    rw [hd] at c4
    go_enter Try.func9, Try.ntmps9
    go_wp2
    go_ret
    exact ⟨tag, rfl, H.out, Turn.refl _ _⟩
omit h in
set_option maxHeartbeats 4000000 in
theorem Append_nil (s b : Value) : Calls Try.prog 9 #[.pointer none, s, b] w fun e w' => e = .returned (.int .i64 1) ∧ w = w' := by
  go_enter Try.func9, Try.ntmps9
  go_wp2
  go_ret
  exact ⟨rfl, rfl⟩
end
end Go.Proofs.Ytcblcffkppiclaa.Dk
