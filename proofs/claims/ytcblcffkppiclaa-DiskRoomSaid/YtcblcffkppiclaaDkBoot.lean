/- Boot: the power fails and comes back. -/
import Derived.Test.YtcblcffkppiclaaDkRead
import Derived.BigRegion
namespace Go.Proofs.Ytcblcffkppiclaa.Dk
open Go.RowKit Go.Maps Go.Sort Go.Proofs.Ytcblcffkppiclaa.DkMap Go.Proofs.YtcblcffkppiclaaW.PrintWords Go.Proofs.YtcblcffkppiclaaW.PrintLast Go.Proofs.YtcblcffkppiclaaW.PrintMore Go.Proofs.Ytcblcffkppiclaa.PDiskNil
attribute [local go_sem] max2_int min2_int max_two min_two max_three min_three max_four min_four
set_option linter.unusedVariables false
set_option linter.unusedSimpArgs false
/-- What becomes of one file. -/
def kept (x : Fi) (k : Int) : Fi := ⟨x.b.take (x.sure + (k % ((x.b.length : Int) - x.sure + 1)).toNat), x.sure + (k % ((x.b.length : Int) - x.sure + 1)).toNat⟩
def bootL : List (List UInt8) → Fl → List Int → Fl
  | [], fl, _ => fl
  | s :: r, fl, ks => match get fl s with
    | none => bootL r fl ks
    | some x => if x.sure < x.b.length ∧ 0 < ks.length then bootL r (put fl s (kept x (ks.getD 0 0))) ks.tail
      else bootL r (put fl s ⟨x.b, x.b.length⟩) ks
def names (l : Fl) : List (List UInt8) := (keys l).mergeSort (fun x y => decide (x ≤ y))
def boot (s : St) (ks : List Int) : St := { s with down := false, fuse := -1, fl := bootL (names s.fl) s.fl ks }
theorem Dk.keysPerm {w : World} {tag : Tags} {p M : Nat} {D : DataW Unit} {F : List UInt8 → Option Nat} {u : Int} {st : St} (h : Dk w tag p M D F u st) (hok : (keys st.fl).Nodup) : (keys st.fl).Perm (strKeys D) := by
  have hm : ∀ x, x ∈ keys st.fl ↔ Maps.has D (.string x) = true := by
    intro x
    rw [h.mp.has, mem_keys]
    cases hg : get st.fl x with
    | none => rw [h.away x hg]; simp
    | some y => obtain ⟨k, hk, _⟩ := h.file x y hg; rw [hk]; simp
  obtain ⟨es, rfl, hko⟩ := h.mp.own.keysOf
  obtain ⟨es2, he, hpw⟩ := h.mp.own.tidy K9
  injection he with he
  subst he
  exact perm_strKeys hpw (fun q hq => by obtain ⟨v, hv⟩ := hko q hq; obtain ⟨x, _, hx, _⟩ := Maps.keyOf_str Try.underlying9 hv; exact ⟨x, hx⟩) hok hm
theorem Dk.names_eq {w : World} {tag : Tags} {p M : Nat} {D : DataW Unit} {F : List UInt8 → Option Nat} {u : Int} {st : St} (h : Dk w tag p M D F u st) (hok : (keys st.fl).Nodup) {ss : List (List UInt8)} (hS : ss.Perm (strKeys D)) :
    ss.mergeSort (fun x y => decide (x ≤ y)) = names st.fl := mergeSort_of_perm (hS.trans (Dk.keysPerm h hok).symm)
theorem names_mem (l : Fl) (s : List UInt8) : s ∈ names l ↔ (get l s).isSome = true := by
  unfold names
  rw [List.mem_mergeSort, mem_keys]
theorem names_length (l : Fl) : (names l).length = l.length := by unfold names; rw [List.length_mergeSort, keys_len]
set_option maxHeartbeats 4000000 in
theorem Names_ok (w : World) (tag : Tags) (p : Nat) (st : St) (h : Dsk Try.prog w tag p st) : Calls Try.prog 22 #[.pointer (some ⟨p, 0, none⟩)] w fun e w' =>
    ∃ v, e = .returned v ∧ (∃ B, w.heap.size ≤ B ∧ w'.ownsRow B 9 1 v (if st.down = true then [] else names st.fl).length ((if st.down = true then [] else names st.fl).map encStr)) ∧ Below w.heap.size w w' := by
  obtain ⟨hok, M, D, F, h⟩ := h
  obtain ⟨c0, c1, c2, c3, c4⟩ := Dk.cells h
  have H := Aside0.mk h
  have hmax : Maps.size D ≤ maxLen := by have := hok.few; rw [h.size]; unfold maxLen; omega
  have hbytes : Maps.size D * 16 ≤ 140737488355328 := by have := hok.few; rw [h.size]; omega
  have HN := Aside0.mk (fun (ss : List (List UInt8)) (hS : ss.Perm (strKeys D)) => Dk.names_eq h hok.apart hS)
  clear h
  cases hd : st.down
  · go_enter Try.func22, Try.ntmps22
    go_wp2_with (first
      | (go_at_call 33; (with_reducible refine (up_ok _ _ _ _ _ _ _ _ H.out).mono ?_); rintro e w2 ⟨he, rfl⟩; rw [hd] at he; subst he)
      | (go_at_call 29; (with_reducible refine ((callsIn_wide.1 (Try.maps_Keys_29 (some M) w))).mono ?_); rintro e w2 ⟨rfl, rfl⟩)
      | (go_at_call 28; (with_reducible refine (callsIn_wide.1 (Try.slices_Sorted_keys_28_29 M st.fl.length D ptrElem w H.out.mp.own hmax hbytes)).mono ?_); rintro e w3 ⟨v, ss, rfl, hS, hrow, hnil, hb⟩))
    go_ret
    have hl : ss.length = (names st.fl).length := by rw [← HN.out ss hS, List.length_mergeSort]
    rw [HN.out ss hS, hl] at hrow
    have hb0 := below_alloc (Below.refl w.heap.size w) (.cells #[.map (some M)] 50)
    exact ⟨_, rfl, ⟨_, hb0.size, hrow⟩, below_step hb0 hb⟩
  · go_enter Try.func22, Try.ntmps22
    go_wp2_with (go_at_call 33; (with_reducible refine (up_ok _ _ _ _ _ _ _ _ H.out).mono ?_); rintro e w2 ⟨he, rfl⟩; rw [hd] at he; subst he)
    go_ret
    exact ⟨_, rfl, ⟨_, Nat.le_refl _, World.ownsRow_nil _ _ _ _⟩, Below.refl _ _⟩
set_option maxHeartbeats 4000000 in
theorem Boot_nil (w : World) (v : Value) : Calls Try.prog 12 #[.pointer none, v] w fun e w' => e = .returned (.tuple #[]) ∧ w = w' := by
  go_enter Try.func12, Try.ntmps12
  go_wp2
  refine bodyPost_ret (results_none rfl _ _ _) rfl ?_
  exact ⟨rfl, rfl⟩
set_option maxHeartbeats 4000000 in
theorem Names_nil (w : World) : Calls Try.prog 22 #[.pointer none] w fun e w' => e = .returned (.slice none 0 0) ∧ w = w' := by
  go_enter Try.func22, Try.ntmps22
  go_wp2_with (go_at_call 33; (with_reducible refine (up_nil _).mono ?_); rintro e w2 ⟨rfl, rfl⟩)
  go_ret
  exact ⟨rfl, rfl⟩
end Go.Proofs.Ytcblcffkppiclaa.Dk
