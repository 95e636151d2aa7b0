/- Bytes behind a file's: what is refused. -/
import Derived.Test.YtcblcffkppiclaaDkFind
namespace Go.Proofs.Ytcblcffkppiclaa.Dk
open Go.RowKit Go.Maps Go.Proofs.Ytcblcffkppiclaa.DkMap Go.Proofs.YtcblcffkppiclaaW.PrintWords Go.Proofs.YtcblcffkppiclaaW.PrintLast Go.Proofs.YtcblcffkppiclaaW.PrintMore
attribute [local go_sem] max2_int min2_int max_two min_two max_three min_three max_four min_four
set_option linter.unusedVariables false
set_option linter.unusedSimpArgs false
section
variable {w : World} {tag : Tags} {p M : Nat} {D : DataW Unit} {F : List UInt8 → Option Nat} {st : St}
theorem Dk.look (h : Dk w tag p M D F (used st.fl) st) (s : ByteArray) (hs : s.size ≤ maxLen) (x : Option Nat) (hx : F s.data.toList = x) :
    (Instr.lookup 50 (.map (some M)) (.string s) false).run Try.prog w = .ok (ptr x) w := by rw [← hx]; exact Dk.lookup h s hs
theorem Dk.lens (h : Dk w tag p M D F (used st.fl) st) : (Builtin.len_ #[50] 3 #[.map (some M)]).run Try.prog w = .ok (.int .i64 st.fl.length) w := by
  have := h.mp.own.len Try.underlying50 3
  rw [h.size] at this
  exact this
end
section
variable (w : World) (tag : Tags) (p M : Nat) (D : DataW Unit) (F : List UInt8 → Option Nat) (st : St)
set_option maxHeartbeats 4000000 in
theorem put_bad (h : Dk w tag p M D F (used st.fl) st) (s : ByteArray) (hs : s.size ≤ maxLen) (hn : isName s.data.toList = false) (b : Value) : Calls Try.prog 24 #[.pointer (some ⟨p, 0, none⟩), .string s, b] w fun e w' => e = .returned (.int .i64 1) ∧ Below w.heap.size w w' := by
  have hs2 : s.size ≤ 9223372036854775807 := by unfold maxLen at hs; omega
  obtain ⟨c0, c1, c2, c3, c4⟩ := Dk.cells h
  have hlk := Dk.look h s hs _ rfl
  go_enter Try.func24, Try.ntmps24
  go_wp2_with (go_at_call 35; (with_reducible refine (isName_ok _ s hs2).mono ?_); rintro e w2 ⟨he, hb⟩; rw [hn] at he; subst he)
  go_ret
  exact ⟨rfl, hb⟩
set_option maxHeartbeats 4000000 in
theorem put_many (h : Dk w tag p M D F (used st.fl) st) (s : ByteArray) (hs : s.size ≤ maxLen) (hn : isName s.data.toList = true) (hg : get st.fl s.data.toList = none) (hl : st.fl.length = 65536) (b : Value) : Calls Try.prog 24 #[.pointer (some ⟨p, 0, none⟩), .string s, b] w fun e w' => e = .returned (.int .i64 12) ∧ Below w.heap.size w w' := by
  have hs2 : s.size ≤ 9223372036854775807 := by unfold maxLen at hs; omega
  obtain ⟨c0, c1, c2, c3, c4⟩ := Dk.cells h
  have hlk : (Instr.lookup 50 (.map (some M)) (.string s) false).run Try.prog w = .ok (.pointer none) w := Dk.look h s hs none (h.away _ hg)
  have H := Aside0.mk h
  go_enter Try.func24, Try.ntmps24
  go_wp2_with (go_at_call 35; (with_reducible refine (isName_ok _ s hs2).mono ?_); rintro e w2 ⟨he, hb⟩; rw [hn] at he; subst he; have h2 := IsDk.below H.out hb; obtain ⟨d0, d1, d2, d3, d4⟩ := Dk.cells h2; have hlen := Dk.lens h2; rw [hl] at hlen)
  go_ret
  exact ⟨rfl, hb⟩
set_option maxHeartbeats 4000000 in
theorem put_full (h : Dk w tag p M D F (used st.fl) st) (hok : st.Ok) (s : ByteArray) (hs : s.size ≤ maxLen) (hn : isName s.data.toList = true) (x : Option Nat) (hx : F s.data.toList = x) (hl : x = none → st.fl.length ≠ 65536) (A : Option Addr) (m c : Nat) (hm : m ≤ 140737488355328) (hfull : st.room < used st.fl + m) :
    Calls Try.prog 24 #[.pointer (some ⟨p, 0, none⟩), .string s, .slice A m c] w fun e w' => e = .returned (.int .i64 7) ∧ Below w.heap.size w w' := by
  have hs2 : s.size ≤ 9223372036854775807 := by unfold maxLen at hs; omega
  obtain ⟨c0, c1, c2, c3, c4⟩ := Dk.cells h
  have hfits := hok.fits
  have hroom := hok.room
  have hw : IntKind.i64.wrap ((st.room : Int) - (used st.fl : Int)) = (st.room : Int) - used st.fl := (IntKind.wrap_i64 _).trans (by omega)
  have hgt : (st.room : Int) - used st.fl < (m : Int) := by omega
  have H := Aside0.mk h
  cases x with
  | none =>
    have hlk : (Instr.lookup 50 (.map (some M)) (.string s) false).run Try.prog w = .ok (.pointer none) w := Dk.look h s hs none hx
    have hl0 := hl rfl
    go_enter Try.func24, Try.ntmps24
    go_wp2_with (go_at_call 35; (with_reducible refine (isName_ok _ s hs2).mono ?_); rintro e w2 ⟨he, hb⟩; rw [hn] at he; subst he; have h2 := IsDk.below H.out hb; obtain ⟨d0, d1, d2, d3, d4⟩ := Dk.cells h2; have hlen := Dk.lens h2)
    go_region
    go_wp2
    go_ret
    exact ⟨rfl, below_drew1 hb⟩
  | some k =>
    have hlk : (Instr.lookup 50 (.map (some M)) (.string s) false).run Try.prog w = .ok (.pointer (some ⟨k, 0, none⟩)) w := Dk.look h s hs (some k) hx
    go_enter Try.func24, Try.ntmps24
    go_wp2_with (go_at_call 35; (with_reducible refine (isName_ok _ s hs2).mono ?_); rintro e w2 ⟨he, hb⟩; rw [hn] at he; subst he; have h2 := IsDk.below H.out hb; obtain ⟨d0, d1, d2, d3, d4⟩ := Dk.cells h2)
    go_region
    go_wp2
    go_ret
    exact ⟨rfl, below_drew1 hb⟩
end
end Go.Proofs.Ytcblcffkppiclaa.Dk
