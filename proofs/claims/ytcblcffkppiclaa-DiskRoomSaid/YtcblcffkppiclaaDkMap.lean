/- A map from strings to pointers that a call made: what each key leads to, told by a function. -/
import Derived.Maps.OwnOps
import Derived.Maps.OwnSet
import Derived.Maps.Views
import Derived.Maps.Ext
import Derived.Sort.KeysCollected
namespace Go.Proofs.Ytcblcffkppiclaa.DkMap
open Go.RowKit Go.Maps
/-- How a pointer to a block reads: as the block's number. -/
def ptrElem : Value → Option (DataW Unit × List MemPlace)
  | .pointer (some ⟨F, 0, none⟩) => some (.lit (.int .u64 (F : Int)), [])
  | .pointer none => some (.nil, [])
  | _ => none
/-- What a key leads to, as a datum. -/
def enc : Option Nat → DataW Unit
  | some F => .lit (.int .u64 (F : Int))
  | none => .nil
def ptr : Option Nat → Value
  | some F => .pointer (some ⟨F, 0, none⟩)
  | none => .pointer none
theorem ptrElem_ptr (x : Option Nat) : ptrElem (ptr x) = some (enc x, []) := by cases x <;> rfl
theorem ptrElem_inv {v : Value} {x : Option Nat} {ps : List MemPlace} (h : ptrElem v = some (enc x, ps)) : v = ptr x := by
  unfold ptrElem at h
  split at h
  · rename_i F
    cases x with
    | none => simp [enc] at h
    | some G =>
      simp [enc] at h
      have h2 : F = G := by omega
      subst h2
      rfl
  · cases x with
    | none => rfl
    | some G => simp [enc] at h
  · cases h
/-- Block M is a map of at most n entries; key s leads to f s. -/
structure IsMp (P : Program) (k : TypeId) (w : World) (M n : Nat) (D : DataW Unit) (f : List UInt8 → Option Nat) : Prop where
  own : w.ownsMap P k ptrElem M n D
  look : ∀ s, D.atKey (.string s) .nil = enc (f s)
  has : ∀ s, Maps.has D (.string s) = (f s).isSome
section
variable {P : Program} {k : TypeId} {w w' : World} {M n : Nat} {D : DataW Unit} {f : List UInt8 → Option Nat}
theorem IsMp.kept (h : IsMp P k w M n D f) (hk : w'.heap[M]? = w.heap[M]?) : IsMp P k w' M n D f := by
  obtain ⟨⟨es, clock, hb, r⟩, h2, h3⟩ := h
  exact ⟨⟨es, clock, hk.trans hb, r⟩, h2, h3⟩
theorem isMp_made (w : World) : IsMp P k (w.alloc (.map #[] 0)) w.heap.size 0 (.map []) (fun _ => none) :=
  ⟨World.ownsMap_made w P k ptrElem, fun _ => rfl, fun _ => rfl⟩
theorem keyStr (s : List UInt8) : WideAt.IsKeyLit (.string s) := by simp [WideAt.IsKeyLit]
/-- A function with one place turned. -/
def upd (f : List UInt8 → Option Nat) (s : List UInt8) (x : Option Nat) : List UInt8 → Option Nat := fun t => if t = s then x else f t
theorem IsMp.isMap (h : IsMp P k w M n D f) : IsMap D := by
  obtain ⟨⟨es, clock, hb, F, hs, hD⟩, _⟩ := h
  exact ⟨_, hD⟩
theorem IsMp.put (h : IsMp P k w M n D f) {s : List UInt8} {F n' : Nat} (h' : w'.ownsMap P k ptrElem M n' (D.put (.string s) (.lit (.int .u64 (F : Int))))) : IsMp P k w' M n' (D.put (.string s) (.lit (.int .u64 (F : Int)))) (upd f s (some F)) := by
  refine ⟨h', fun t => ?_, fun t => ?_⟩
  · unfold upd
    by_cases e : t = s
    · subst e; rw [if_pos rfl, atKey_put_same h.isMap (keyStr _)]; rfl
    · rw [if_neg e, atKey_put_other (by simpa using e), h.look t]
  · unfold upd
    by_cases e : t = s
    · subst e; rw [if_pos rfl, has_put_same h.isMap (keyStr _)]; rfl
    · rw [if_neg e, has_put_other (by simpa using e), h.has t]
theorem IsMp.del (h : IsMp P k w M n D f) {s : List UInt8} {n' : Nat} (h' : w'.ownsMap P k ptrElem M n' (D.del (.string s))) : IsMp P k w' M n' (D.del (.string s)) (upd f s none) := by
  refine ⟨h', fun t => ?_, fun t => ?_⟩
  · unfold upd
    by_cases e : t = s
    · subst e; rw [if_pos rfl, atKey_del_same]; rfl
    · rw [if_neg e, atKey_del_other (by simpa using e), h.look t]
  · unfold upd
    by_cases e : t = s
    · subst e; rw [if_pos rfl, has_del_same]; rfl
    · rw [if_neg e, has_del_other (by simpa using e), h.has t]
/-- A look-up at the operation. -/
theorem IsMp.lookup {t e : TypeId} (h : IsMp P k w M n D f) (K : Keyed P k) (ht : P.underlying t = some (.map k e)) (hz : (zeroValue e).run P w = .ok (.pointer none) w) {key : Value} {s : List UInt8} (hkey : keyOf P k key = some (.string s)) :
    (Instr.lookup t (.map (some M)) key false).run P w = .ok (ptr (f s)) w := by
  obtain ⟨v, ps, hrun, hv⟩ := h.own.lookup K ht hz (zd := .nil) (zp := []) rfl hkey
  rw [h.look s] at hv
  rw [hrun, ptrElem_inv hv]
end
end Go.Proofs.Ytcblcffkppiclaa.DkMap
