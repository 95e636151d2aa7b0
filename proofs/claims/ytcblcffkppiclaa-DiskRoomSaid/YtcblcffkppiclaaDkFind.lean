/- Finding a file; an empty disk. -/
import Derived.Test.YtcblcffkppiclaaDkName
import Derived.Test.YtcblcffkppiclaaIter
import Derived.StringKeys
namespace Go.Proofs.Ytcblcffkppiclaa.Dk
open Go.RowKit Go.Maps Go.Proofs.Ytcblcffkppiclaa.DkMap Go.Proofs.YtcblcffkppiclaaW.PrintWords Go.Proofs.YtcblcffkppiclaaW.PrintLast Go.Proofs.YtcblcffkppiclaaW.PrintMore
attribute [local go_sem] max2_int min2_int max_two min_two max_three min_three max_four min_four
set_option linter.unusedVariables false
set_option linter.unusedSimpArgs false
theorem K9 : Keyed Try.prog 9 := string_keyed Try.underlying9
theorem Dk.lookup {w : World} {tag : Tags} {p M : Nat} {D : DataW Unit} {F : List UInt8 → Option Nat} {u : Int} {st : St} (h : Dk w tag p M D F u st) (s : ByteArray) (hs : s.size ≤ maxLen) :
    (Instr.lookup 50 (.map (some M)) (.string s) false).run Try.prog w = .ok (ptr (F s.data.toList)) w :=
  h.mp.lookup K9 Try.underlying50 (by kernel_rfl) (Go.WideMaps.keyOf_string_mk Try.underlying9 hs)
theorem New_none (w : World) (n : Int) (h : n < 0 ∨ 1099511627776 < n) : Calls Try.prog 8 #[.int .i64 n] w fun e w' => e = .returned (.pointer none) ∧ w = w' := by
  rcases h with h | h
  · go_enter Try.func8, Try.ntmps8
    go_wp2
    go_ret
    exact ⟨rfl, rfl⟩
  · have h' : ¬ n < 0 := by omega
    go_enter Try.func8, Try.ntmps8
    go_wp2
    go_ret
    exact ⟨rfl, rfl⟩
def noTag : Tags := fun _ => none
theorem New_ok (w : World) (n : Nat) (hn : n ≤ 1099511627776) : Calls Try.prog 8 #[.int .i64 n] w fun e w' => ∃ p tag, e = .returned (.pointer (some ⟨p, 0, none⟩)) ∧ Dsk Try.prog w' tag p ⟨n, [], -1, false⟩ ∧ Turn w w' noTag tag := by
  have hmm := run_makeMap (P := Try.prog) 50 w
  go_enter Try.func8, Try.ntmps8
  go_wp2
  go_ret
  have hb : Below w.heap.size w ((w.alloc (.map #[] 0)).alloc (.cells #[.int .i64 n, .int .i64 0, .map (some w.heap.size), .int .i64 (-1), .bool false] 52)) := below_alloc (below_alloc (Below.refl _ _) _) _
  have hm := isMp_made (P := Try.prog) (k := 9) w
  have hs1 : (w.alloc (.map #[] 0)).heap.size = w.heap.size + 1 := by simp
  have hh := heap_alloc_new (w.alloc (.map #[] 0)) (.cells #[.int .i64 n, .int .i64 0, .map (some w.heap.size), .int .i64 (-1), .bool false] 52)
  rw [hs1] at hh
  have hk : ((w.alloc (.map #[] 0)).alloc (.cells #[.int .i64 n, .int .i64 0, .map (some w.heap.size), .int .i64 (-1), .bool false] 52)).heap[w.heap.size]? = (w.alloc (.map #[] 0)).heap[w.heap.size]? := (below_alloc (Below.refl (w.alloc (.map #[] 0)).heap.size (w.alloc (.map #[] 0))) _).block _ (by omega)
  have hs2 : ((w.alloc (.map #[] 0)).alloc (.cells #[.int .i64 n, .int .i64 0, .map (some w.heap.size), .int .i64 (-1), .bool false] 52)).heap.size = w.heap.size + 2 := by simp
  generalize ((w.alloc (.map #[] 0)).alloc (.cells #[.int .i64 n, .int .i64 0, .map (some w.heap.size), .int .i64 (-1), .bool false] 52)) = w2 at hb hh hk hs2
  refine ⟨w.heap.size + 1, fun k => if k = w.heap.size then some .map else if k = w.heap.size + 1 then some .disk else none, rfl, ⟨⟨by simp [keys], fun _ _ h => by simp [get] at h, by simp [used], hn, by simp, by simp, by simp⟩, w.heap.size, .map [], fun _ => none, ?_⟩, ?_⟩
  · refine ⟨hh, hm.kept hk, rfl, fun s x h => by simp [get] at h, fun _ _ => rfl, ?_, ?_, fun k hk => ?_⟩
    · show (if w.heap.size + 1 = w.heap.size then some Tag.map else if w.heap.size + 1 = w.heap.size + 1 then some Tag.disk else none) = _
      rw [if_neg (by omega), if_pos rfl]
    · show (if w.heap.size = w.heap.size then some Tag.map else if w.heap.size = w.heap.size + 1 then some Tag.disk else none) = _
      rw [if_pos rfl]
    · have hk3 : w.heap.size + 2 ≤ k := by rw [← hs2]; exact hk
      show (if k = w.heap.size then some Tag.map else if k = w.heap.size + 1 then some Tag.disk else none) = none
      rw [if_neg (by omega), if_neg (by omega)]
  · exact ⟨hb.os, hb.tape, hb.output, hb.size, fun k hk _ => hb.block k hk, fun k hk _ => by
      show (if k = w.heap.size then some Tag.map else if k = w.heap.size + 1 then some Tag.disk else none) = none
      rw [if_neg (by omega), if_neg (by omega)]⟩
set_option maxHeartbeats 4000000 in
theorem find_bad (w : World) (p : Nat) (s : ByteArray) (hs : s.size ≤ maxLen) (hn : isName s.data.toList = false) : Calls Try.prog 31 #[.pointer (some ⟨p, 0, none⟩), .string s] w fun e w' => e = .returned (.tuple #[.pointer none, .int .i64 1]) ∧ Below w.heap.size w w' := by
  unfold maxLen at hs
  go_enter Try.func31, Try.ntmps31
  go_wp2_with (go_at_call 35; (with_reducible refine (isName_ok _ s (by omega)).mono ?_); rintro e w2 ⟨he, hb⟩; rw [hn] at he; subst he)
  go_ret2
  exact ⟨rfl, hb⟩
set_option maxHeartbeats 4000000 in
theorem find_none (w : World) {tag : Tags} {p M : Nat} {D : DataW Unit} {F : List UInt8 → Option Nat} {u : Int} {st : St} (h : Dk w tag p M D F u st) (s : ByteArray) (hs : s.size ≤ maxLen) (hn : isName s.data.toList = true) (hg : get st.fl s.data.toList = none) :
    Calls Try.prog 31 #[.pointer (some ⟨p, 0, none⟩), .string s] w fun e w' => e = .returned (.tuple #[.pointer none, .int .i64 8]) ∧ Below w.heap.size w w' := by
  have hs2 : s.size ≤ 9223372036854775807 := by unfold maxLen at hs; omega
  have H := Aside0.mk h
  go_enter Try.func31, Try.ntmps31
  go_wp2_with (go_at_call 35; (with_reducible refine (isName_ok _ s hs2).mono ?_); rintro e w2 ⟨he, hb⟩; rw [hn] at he; subst he; have h2 := IsDk.below H.out hb; obtain ⟨c0, c1, c2, c3, c4⟩ := Dk.cells h2; have hlk : (Instr.lookup 50 (.map (some M)) (.string s) false).run Try.prog w2 = .ok (.pointer none) w2 := (by have e := Dk.lookup h2 s hs; rw [h2.away _ hg] at e; exact e))
  go_ret2
  exact ⟨rfl, hb⟩
set_option maxHeartbeats 4000000 in
theorem find_ok (w : World) {tag : Tags} {p M : Nat} {D : DataW Unit} {F : List UInt8 → Option Nat} {u : Int} {st : St} (h : Dk w tag p M D F u st) (s : ByteArray) (hs : s.size ≤ maxLen) (hn : isName s.data.toList = true) (k : Nat) (hg : F s.data.toList = some k) :
    Calls Try.prog 31 #[.pointer (some ⟨p, 0, none⟩), .string s] w fun e w' => e = .returned (.tuple #[.pointer (some ⟨k, 0, none⟩), .int .i64 0]) ∧ Below w.heap.size w w' := by
  have hs2 : s.size ≤ 9223372036854775807 := by unfold maxLen at hs; omega
  have H := Aside0.mk h
  go_enter Try.func31, Try.ntmps31
  go_wp2_with (go_at_call 35; (with_reducible refine (isName_ok _ s hs2).mono ?_); rintro e w2 ⟨he, hb⟩; rw [hn] at he; subst he; have h2 := IsDk.below H.out hb; obtain ⟨c0, c1, c2, c3, c4⟩ := Dk.cells h2; have hlk : (Instr.lookup 50 (.map (some M)) (.string s) false).run Try.prog w2 = .ok (.pointer (some ⟨k, 0, none⟩)) w2 := (by have e := Dk.lookup h2 s hs; rw [hg] at e; exact e))
  go_ret2
  exact ⟨rfl, hb⟩
end Go.Proofs.Ytcblcffkppiclaa.Dk
