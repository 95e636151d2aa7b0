/- A map from strings to pointers that a call made: what each key leads to, told by a function. The disk in memory: its block, its map, and for each file a block and a row; whose block is whose is told by tags. The disk's small methods. Which strings are names; finding a file; an empty disk. Finding a file; an empty disk. Bytes behind a file's: what is refused. -/
import Derived.Maps.OwnOps
import Derived.Maps.OwnSet
import Derived.Maps.Views
import Derived.Maps.Ext
import Derived.Sort.KeysCollected
import Derived.Test.YtcblcffkppiclaaDmZ
import Derived.Test.YtcblcffkppiclaaPDiskNilx7
import Derived.Test.YtcblcffkppiclaaIter
import Derived.StringKeys
namespace Go.Proofs.Ytcblcffkppiclaa.DkMap
open Go.RowKit Go.Maps
/-- How a pointer to a block reads: as the block's number. -/
def ptrElem : Value → Option (DataW Unit × List MemPlace)
  | .pointer (some ⟨F, 0, none⟩) => some (.lit (.int .u64 (F : Int)), [])
  | .pointer none => some (.nil, [])
  | _ => none
/-- What a key leads to, as a datum. -/
def enc : Option Nat → DataW Unit
  | some F => .lit (.int .u64 (F : Int))
  | none => .nil
def ptr : Option Nat → Value
  | some F => .pointer (some ⟨F, 0, none⟩)
  | none => .pointer none
theorem ptrElem_ptr (x : Option Nat) : ptrElem (ptr x) = some (enc x, []) := by cases x <;> rfl
theorem ptrElem_inv {v : Value} {x : Option Nat} {ps : List MemPlace} (h : ptrElem v = some (enc x, ps)) : v = ptr x := by
  unfold ptrElem at h
  split at h
  · rename_i F
    cases x with
    | none => simp [enc] at h
    | some G =>
      simp [enc] at h
      have h2 : F = G := by omega
      subst h2
      rfl
  · cases x with
    | none => rfl
    | some G => simp [enc] at h
  · cases h
/-- Block M is a map of at most n entries; key s leads to f s. -/
structure IsMp (P : Program) (k : TypeId) (w : World) (M n : Nat) (D : DataW Unit) (f : List UInt8 → Option Nat) : Prop where
  own : w.ownsMap P k ptrElem M n D
  look : ∀ s, D.atKey (.string s) .nil = enc (f s)
  has : ∀ s, Maps.has D (.string s) = (f s).isSome
section
variable {P : Program} {k : TypeId} {w w' : World} {M n : Nat} {D : DataW Unit} {f : List UInt8 → Option Nat}
theorem IsMp.kept (h : IsMp P k w M n D f) (hk : w'.heap[M]? = w.heap[M]?) : IsMp P k w' M n D f := by
  obtain ⟨⟨es, clock, hb, r⟩, h2, h3⟩ := h
  exact ⟨⟨es, clock, hk.trans hb, r⟩, h2, h3⟩
theorem isMp_made (w : World) : IsMp P k (w.alloc (.map #[] 0)) w.heap.size 0 (.map []) (fun _ => none) :=
  ⟨World.ownsMap_made w P k ptrElem, fun _ => rfl, fun _ => rfl⟩
theorem keyStr (s : List UInt8) : WideAt.IsKeyLit (.string s) := by simp [WideAt.IsKeyLit]
/-- A function with one place turned. -/
def upd (f : List UInt8 → Option Nat) (s : List UInt8) (x : Option Nat) : List UInt8 → Option Nat := fun t => if t = s then x else f t
theorem IsMp.isMap (h : IsMp P k w M n D f) : IsMap D := by
  obtain ⟨⟨es, clock, hb, F, hs, hD⟩, _⟩ := h
  exact ⟨_, hD⟩
theorem IsMp.put (h : IsMp P k w M n D f) {s : List UInt8} {F n' : Nat} (h' : w'.ownsMap P k ptrElem M n' (D.put (.string s) (.lit (.int .u64 (F : Int))))) : IsMp P k w' M n' (D.put (.string s) (.lit (.int .u64 (F : Int)))) (upd f s (some F)) := by
  refine ⟨h', fun t => ?_, fun t => ?_⟩
  · unfold upd
    by_cases e : t = s
    · subst e; rw [if_pos rfl, atKey_put_same h.isMap (keyStr _)]; rfl
    · rw [if_neg e, atKey_put_other (by simpa using e), h.look t]
  · unfold upd
    by_cases e : t = s
    · subst e; rw [if_pos rfl, has_put_same h.isMap (keyStr _)]; rfl
    · rw [if_neg e, has_put_other (by simpa using e), h.has t]
theorem IsMp.del (h : IsMp P k w M n D f) {s : List UInt8} {n' : Nat} (h' : w'.ownsMap P k ptrElem M n' (D.del (.string s))) : IsMp P k w' M n' (D.del (.string s)) (upd f s none) := by
  refine ⟨h', fun t => ?_, fun t => ?_⟩
  · unfold upd
    by_cases e : t = s
    · subst e; rw [if_pos rfl, atKey_del_same]; rfl
    · rw [if_neg e, atKey_del_other (by simpa using e), h.look t]
  · unfold upd
    by_cases e : t = s
    · subst e; rw [if_pos rfl, has_del_same]; rfl
    · rw [if_neg e, has_del_other (by simpa using e), h.has t]
/-- A look-up at the operation. -/
theorem IsMp.lookup {t e : TypeId} (h : IsMp P k w M n D f) (K : Keyed P k) (ht : P.underlying t = some (.map k e)) (hz : (zeroValue e).run P w = .ok (.pointer none) w) {key : Value} {s : List UInt8} (hkey : keyOf P k key = some (.string s)) :
    (Instr.lookup t (.map (some M)) key false).run P w = .ok (ptr (f s)) w := by
  obtain ⟨v, ps, hrun, hv⟩ := h.own.lookup K ht hz (zd := .nil) (zp := []) rfl hkey
  rw [h.look s] at hv
  rw [hrun, ptrElem_inv hv]
end
end Go.Proofs.Ytcblcffkppiclaa.DkMap
namespace Go.Proofs.Ytcblcffkppiclaa.Dk
open Go.RowKit Go.Maps Go.Proofs.Ytcblcffkppiclaa.DkMap
set_option linter.unusedVariables false
inductive Tag where
  | disk
  | map
  | file (s : List UInt8)
  | row (s : List UInt8)
abbrev Tags := Nat → Option Tag
/-- v is a file's row in memory. -/
def FRow (w : World) (tag : Tags) (s : List UInt8) (v : Value) (xs : List Int) : Prop :=
  (v = .slice none 0 0 ∧ xs = []) ∨ ∃ R cap cur, v = .slice (some ⟨R, 0, none⟩) xs.length cap ∧ w.heap[R]? = some (.cells cur 5 (0, 0)) ∧ xs.length ≤ cap ∧ cap ≤ cur.size ∧ cap ≤ maxLen ∧ cur.toList.take xs.length = xs.map (Value.int .u8) ∧ tag R = some (.row s)
/-- A file in memory. -/
def FBlk (w : World) (tag : Tags) (s : List UInt8) (x : Fi) (k : Nat) : Prop :=
  ∃ v, w.heap[k]? = some (.cells #[v, .int .i64 x.sure] 57 (0, 0)) ∧ tag k = some (.file s) ∧ FRow w tag s v x.b
structure IsDk (P : Program) (w : World) (tag : Tags) (p M : Nat) (D : DataW Unit) (F : List UInt8 → Option Nat) (u : Int) (st : St) : Prop where
  head : w.heap[p]? = some (.cells #[.int .i64 st.room, .int .i64 u, .map (some M), .int .i64 st.fuse, .bool st.down] 52 (0, 0))
  mp : IsMp P 9 w M st.fl.length D F
  size : Maps.size D = st.fl.length
  file : ∀ s x, get st.fl s = some x → ∃ k, F s = some k ∧ FBlk w tag s x k
  away : ∀ s, get st.fl s = none → F s = none
  tp : tag p = some .disk
  tm : tag M = some .map
  fresh : ∀ k, w.heap.size ≤ k → tag k = none
def Dsk (P : Program) (w : World) (tag : Tags) (p : Nat) (st : St) : Prop := st.Ok ∧ ∃ M D F, IsDk P w tag p M D F (used st.fl) st
/-- What a call on the disk leaves as it is. -/
structure Turn (w w' : World) (tag tag' : Tags) : Prop where
  os : w'.os = w.os
  tape : w'.tape = w.tape
  output : w'.output = w.output
  size : w.heap.size ≤ w'.heap.size
  block : ∀ k, k < w.heap.size → tag k = none → w'.heap[k]? = w.heap[k]?
  tags : ∀ k, k < w.heap.size → tag k = none → tag' k = none
theorem Turn.refl (w : World) (tag : Tags) : Turn w w tag tag := ⟨rfl, rfl, rfl, Nat.le_refl _, fun _ _ _ => rfl, fun _ _ h => h⟩
theorem Turn.trans {w w' w'' : World} {t t' t'' : Tags} (h : Turn w w' t t') (h' : Turn w' w'' t' t'') : Turn w w'' t t'' :=
  ⟨h'.os.trans h.os, h'.tape.trans h.tape, h'.output.trans h.output, Nat.le_trans h.size h'.size, fun k hk ht => (h'.block k (Nat.lt_of_lt_of_le hk h.size) (h.tags k hk ht)).trans (h.block k hk ht), fun k hk ht => h'.tags k (Nat.lt_of_lt_of_le hk h.size) (h.tags k hk ht)⟩
theorem Turn.below {w w' : World} {tag : Tags} (h : Below w.heap.size w w') : Turn w w' tag tag :=
  ⟨h.os, h.tape, h.output, h.size, fun k hk _ => h.block k hk, fun _ _ h => h⟩
section
variable {P : Program} {w w' : World} {tag tag' : Tags} {p M : Nat} {D : DataW Unit} {F : List UInt8 → Option Nat} {u : Int} {st : St}
theorem FRow.same {s : List UInt8} {v : Value} {xs : List Int} (h : FRow w tag s v xs) (hk : ∀ k, tag k = some (.row s) → w'.heap[k]? = w.heap[k]?) (ht : ∀ k, tag k = some (.row s) → tag' k = some (.row s)) : FRow w' tag' s v xs := by
  rcases h with h | ⟨R, cap, cur, h1, h2, h3, h4, h5, h6, h7⟩
  · exact .inl h
  · exact .inr ⟨R, cap, cur, h1, (hk R h7).trans h2, h3, h4, h5, h6, ht R h7⟩
theorem FBlk.same {s : List UInt8} {x : Fi} {k : Nat} (h : FBlk w tag s x k) (hk : ∀ k, tag k = some (.row s) ∨ tag k = some (.file s) → w'.heap[k]? = w.heap[k]?) (ht : ∀ k t, t = Tag.row s ∨ t = Tag.file s → tag k = some t → tag' k = some t) : FBlk w' tag' s x k := by
  obtain ⟨v, h1, h2, h3⟩ := h
  exact ⟨v, (hk k (.inr h2)).trans h1, ht k _ (.inr rfl) h2, h3.same (fun k hk2 => hk k (.inl hk2)) (fun k hk2 => ht k _ (.inl rfl) hk2)⟩
theorem IsDk.lt (h : IsDk P w tag p M D F u st) : p < w.heap.size := (Array.getElem?_eq_some_iff.1 h.head).1
theorem IsDk.ltM (h : IsDk P w tag p M D F u st) : M < w.heap.size := by
  obtain ⟨es, clock, hb, _⟩ := h.mp.own
  exact (Array.getElem?_eq_some_iff.1 hb).1
theorem IsDk.pM (h : IsDk P w tag p M D F u st) : p ≠ M := by
  intro e; have := h.tp; rw [e, h.tm] at this; cases this
theorem FBlk.lt {s : List UInt8} {x : Fi} {k : Nat} (h : FBlk w tag s x k) : k < w.heap.size := by
  obtain ⟨v, h1, _⟩ := h
  exact (Array.getElem?_eq_some_iff.1 h1).1
/-- Nothing of the disk's has turned. -/
theorem IsDk.same (h : IsDk P w tag p M D F u st) (hs : w.heap.size ≤ w'.heap.size) (hk : ∀ k, (tag k).isSome = true → w'.heap[k]? = w.heap[k]?) : IsDk P w' tag p M D F u st :=
  ⟨(hk p (by rw [h.tp]; rfl)).trans h.head, h.mp.kept (hk M (by rw [h.tm]; rfl)), h.size,
    fun s x hx => by obtain ⟨k, h1, h2⟩ := h.file s x hx; exact ⟨k, h1, h2.same (fun k ht => hk k (by rcases ht with ht | ht <;> rw [ht] <;> rfl)) (fun _ _ _ ht => ht)⟩,
    h.away, h.tp, h.tm, fun k hk => h.fresh k (by omega)⟩
theorem IsDk.below (h : IsDk P w tag p M D F u st) (hb : Below w.heap.size w w') : IsDk P w' tag p M D F u st :=
  h.same hb.size (fun k hk => by
    rcases Nat.lt_or_ge k w.heap.size with h1 | h1
    · exact hb.block k h1
    · rw [h.fresh k h1] at hk; cases hk)
/-- The disk's own block is written. -/
theorem IsDk.setHead (h : IsDk P w tag p M D F u st) {st' : St} {u' : Int} (hf : st'.fl = st.fl) (hp : w'.heap[p]? = some (.cells #[.int .i64 st'.room, .int .i64 u', .map (some M), .int .i64 st'.fuse, .bool st'.down] 52 (0, 0))) (hs : w.heap.size ≤ w'.heap.size) (hk : ∀ k, k ≠ p → k < w.heap.size → w'.heap[k]? = w.heap[k]?) : IsDk P w' tag p M D F u' st' := by
  have hk2 : ∀ k t, tag k = some t → t ≠ .disk → w'.heap[k]? = w.heap[k]? := fun k t ht hne => hk k (fun e => by rw [e, h.tp] at ht; cases ht; exact hne rfl) (by
    rcases Nat.lt_or_ge k w.heap.size with h1 | h1
    · exact h1
    · rw [h.fresh k h1] at ht; cases ht)
  refine ⟨hp, ?_, by rw [hf]; exact h.size, fun s x hx => ?_, fun s hx => h.away s (by rw [← hf]; exact hx), h.tp, h.tm, fun k hk => h.fresh k (by omega)⟩
  · rw [hf]
    exact h.mp.kept (hk2 M .map h.tm (by intro e; cases e))
  · rw [hf] at hx
    obtain ⟨k, h1, h2⟩ := h.file s x hx
    exact ⟨k, h1, h2.same (fun k ht => by rcases ht with ht | ht <;> exact hk2 k _ ht (by intro e; cases e)) (fun _ _ _ ht => ht)⟩
/-- One file is set: its block and its row are what they are said to be, the rest has stayed; the map may have turned. -/
theorem IsDk.setFile (h : IsDk P w tag p M D F u st) {s : List UInt8} {x : Fi} {k : Nat} {D' : DataW Unit} {F' : List UInt8 → Option Nat} {fl' : Fl} (hg : ∀ t, t ≠ s → get fl' t = get st.fl t) (hgs : get fl' s = some x)
    (hmp : IsMp P 9 w' M fl'.length D' F') (hsz : Maps.size D' = fl'.length) (hF : ∀ t, t ≠ s → F' t = F t) (hFs : F' s = some k) (hb : FBlk w' tag' s x k)
    (hs : w.heap.size ≤ w'.heap.size) (hk : ∀ j t, tag j = some t → t ≠ .row s → t ≠ .file s → t ≠ .map → w'.heap[j]? = w.heap[j]?) (ht : ∀ j t, tag j = some t → t ≠ .row s → t ≠ .file s → tag' j = some t) (hfr : ∀ j, w'.heap.size ≤ j → tag' j = none) :
    IsDk P w' tag' p M D' F' u { st with fl := fl' } := by
  refine ⟨(hk p _ h.tp (by intro e; cases e) (by intro e; cases e) (by intro e; cases e)).trans h.head, hmp, hsz, fun t y hy => ?_, fun t hn => ?_, ht p _ h.tp (by intro e; cases e) (by intro e; cases e), ht M _ h.tm (by intro e; cases e) (by intro e; cases e), hfr⟩
  · by_cases e : t = s
    · subst e
      rw [hgs] at hy
      cases hy
      exact ⟨k, hFs, hb⟩
    · simp only at hy
      rw [hg t e] at hy
      obtain ⟨k2, h1, h2⟩ := h.file t y hy
      refine ⟨k2, by rw [hF t e]; exact h1, h2.same (fun j hj => ?_) (fun j t2 h3 h4 => ?_)⟩
      · rcases hj with hj | hj
        · exact hk j _ hj (by intro e2; cases e2; exact e rfl) (by intro e2; cases e2) (by intro e2; cases e2)
        · exact hk j _ hj (by intro e2; cases e2) (by intro e2; cases e2; exact e rfl) (by intro e2; cases e2)
      · rcases h3 with rfl | rfl
        · exact ht j _ h4 (by intro e2; cases e2; exact e rfl) (by intro e2; cases e2)
        · exact ht j _ h4 (by intro e2; cases e2) (by intro e2; cases e2; exact e rfl)
  · by_cases e : t = s
    · subst e; simp only at hn; rw [hgs] at hn; cases hn
    · simp only at hn; rw [hg t e] at hn; rw [hF t e]; exact h.away t hn
/-- One file is away. -/
theorem IsDk.delFile (h : IsDk P w tag p M D F u st) {s : List UInt8} {D' : DataW Unit} {F' : List UInt8 → Option Nat} {fl' : Fl} (hg : ∀ t, t ≠ s → get fl' t = get st.fl t) (hgs : get fl' s = none)
    (hmp : IsMp P 9 w' M fl'.length D' F') (hsz : Maps.size D' = fl'.length) (hF : ∀ t, t ≠ s → F' t = F t) (hFs : F' s = Option.none)
    (hs : w.heap.size ≤ w'.heap.size) (hk : ∀ j t, tag j = some t → t ≠ .map → w'.heap[j]? = w.heap[j]?) : IsDk P w' tag p M D' F' u { st with fl := fl' } := by
  refine ⟨(hk p _ h.tp (by intro e; cases e)).trans h.head, hmp, hsz, fun t y hy => ?_, fun t hn => ?_, h.tp, h.tm, fun k hk => h.fresh k (by omega)⟩
  · by_cases e : t = s
    · subst e; simp only at hy; rw [hgs] at hy; cases hy
    · simp only at hy
      rw [hg t e] at hy
      obtain ⟨k2, h1, h2⟩ := h.file t y hy
      exact ⟨k2, by rw [hF t e]; exact h1, h2.same (fun j hj => by rcases hj with hj | hj <;> exact hk j _ hj (by intro e2; cases e2)) (fun _ _ _ ht => ht)⟩
  · by_cases e : t = s
    · subst e; exact hFs
    · simp only at hn; rw [hg t e] at hn; rw [hF t e]; exact h.away t hn
end
end Go.Proofs.Ytcblcffkppiclaa.Dk
namespace Go.Proofs.Ytcblcffkppiclaa.Dk
open Go.RowKit Go.Maps Go.Proofs.Ytcblcffkppiclaa.DkMap Go.Proofs.YtcblcffkppiclaaW.PrintWords Go.Proofs.YtcblcffkppiclaaW.PrintLast Go.Proofs.YtcblcffkppiclaaW.PrintMore
attribute [local go_sem] max2_int min2_int max_two min_two max_three min_three max_four min_four
set_option linter.unusedVariables false
set_option linter.unusedSimpArgs false
abbrev Dk := IsDk Try.prog
section
variable {w : World} {tag : Tags} {p M : Nat} {D : DataW Unit} {F : List UInt8 → Option Nat} {u : Int} {st : St}
theorem Turn.head (h : Dk w tag p M D F u st) (i : Nat) (v : Value) : Turn w (w.setCell ⟨p, i, none⟩ v) tag tag :=
  have e := setCells_same p [v] i w
  ⟨e.1, e.2.1, e.2.2.1, by simp, fun k hk ht => Below.heap_setCell w ⟨p, i, none⟩ v k (fun e => by rw [e, h.tp] at ht; cases ht), fun _ _ h => h⟩
theorem Dk.setFuse (h : Dk w tag p M D F u st) (n : Int) : Dk (w.setCell ⟨p, 3, none⟩ (.int .i64 n)) tag p M D F u { st with fuse := n } :=
  IsDk.setHead h (st' := { st with fuse := n }) rfl (by rw [blk_set h.head]; simp) (by simp) (fun k hk _ => Below.heap_setCell w ⟨p, 3, none⟩ _ k hk)
theorem Dk.setDown (h : Dk w tag p M D F u st) (b : Bool) : Dk (w.setCell ⟨p, 4, none⟩ (.bool b)) tag p M D F u { st with down := b } :=
  IsDk.setHead h (st' := { st with down := b }) rfl (by rw [blk_set h.head]; simp) (by simp) (fun k hk _ => Below.heap_setCell w ⟨p, 4, none⟩ _ k hk)
theorem Dk.setUsed (h : Dk w tag p M D F u st) (n : Int) : Dk (w.setCell ⟨p, 1, none⟩ (.int .i64 n)) tag p M D F n st :=
  IsDk.setHead h (st' := st) rfl (by rw [blk_set h.head]; simp) (by simp) (fun k hk _ => Below.heap_setCell w ⟨p, 1, none⟩ _ k hk)
theorem Dk.cells (h : Dk w tag p M D F u st) : w.cell? ⟨p, 0, none⟩ = some (.int .i64 st.room) ∧ w.cell? ⟨p, 1, none⟩ = some (.int .i64 u) ∧ w.cell? ⟨p, 2, none⟩ = some (.map (some M)) ∧ w.cell? ⟨p, 3, none⟩ = some (.int .i64 st.fuse) ∧ w.cell? ⟨p, 4, none⟩ = some (.bool st.down) := by
  refine ⟨?_, ?_, ?_, ?_, ?_⟩ <;> rw [blk_cell h.head] <;> rfl
theorem Dk.froz (h : Dk w tag p M D F u st) (i : Nat) : w.frozen? ⟨p, i, none⟩ = false := blk_frozen h.head i
end
section
variable (w : World) (tag : Tags) (p M : Nat) (D : DataW Unit) (F : List UInt8 → Option Nat) (u : Int) (st : St)
set_option maxHeartbeats 4000000 in
theorem fail_ok (h : Dk w tag p M D F u st) : Calls Try.prog 25 #[.pointer (some ⟨p, 0, none⟩)] w fun e w' => e = .returned (.int .i64 15) ∧ Dk w' tag p M D F u { st with down := true } ∧ Turn w w' tag tag := by
  obtain ⟨c0, c1, c2, c3, c4⟩ := Dk.cells h
  have hf := Dk.froz h 4
  go_enter Try.func25, Try.ntmps25
  go_wp2
  go_ret
  exact ⟨rfl, Dk.setDown h true, Turn.head h _ _⟩
set_option maxHeartbeats 4000000 in
theorem spent_ok (h : Dk w tag p M D F u st) (h1 : st.fuse ≤ 9223372036854775807) : Calls Try.prog 23 #[.pointer (some ⟨p, 0, none⟩)] w fun e w' => e = .returned (.bool (fails st)) ∧ Dk w' tag p M D F u (burn st) ∧ Turn w w' tag tag := by
  obtain ⟨c0, c1, c2, c3, c4⟩ := Dk.cells h
  have hf := Dk.froz h 3
  unfold fails burn
  by_cases hp : 0 < st.fuse
  · have e0 : decide (st.fuse = 0) = false := decide_eq_false (by omega)
    rw [e0, if_pos hp]
    go_enter Try.func23, Try.ntmps23
    go_wp2
    go_ret
    exact ⟨rfl, Dk.setFuse h _, Turn.head h _ _⟩
  · rw [if_neg hp]
    go_enter Try.func23, Try.ntmps23
    go_wp2
    go_ret
    exact ⟨rfl, h, Turn.refl _ _⟩
set_option maxHeartbeats 4000000 in
theorem Down_ok (h : Dk w tag p M D F u st) : Calls Try.prog 15 #[.pointer (some ⟨p, 0, none⟩)] w fun e w' => e = .returned (.bool st.down) ∧ w = w' := by
  obtain ⟨c0, c1, c2, c3, c4⟩ := Dk.cells h
  go_enter Try.func15, Try.ntmps15
  go_wp2
  go_ret
  exact ⟨rfl, rfl⟩
set_option maxHeartbeats 4000000 in
theorem Down_nil : Calls Try.prog 15 #[.pointer none] w fun e w' => e = .returned (.bool false) ∧ w = w' := by
  go_enter Try.func15, Try.ntmps15
  go_wp2
  go_ret
  exact ⟨rfl, rfl⟩
set_option maxHeartbeats 4000000 in
theorem up_ok (h : Dk w tag p M D F u st) : Calls Try.prog 33 #[.pointer (some ⟨p, 0, none⟩)] w fun e w' => e = .returned (.bool (!st.down)) ∧ w = w' := by
  obtain ⟨c0, c1, c2, c3, c4⟩ := Dk.cells h
  go_enter Try.func33, Try.ntmps33
  go_wp2
  go_ret
  exact ⟨rfl, rfl⟩
set_option maxHeartbeats 4000000 in
theorem up_nil : Calls Try.prog 33 #[.pointer none] w fun e w' => e = .returned (.bool false) ∧ w = w' := by
  go_enter Try.func33, Try.ntmps33
  go_wp2
  go_ret
  exact ⟨rfl, rfl⟩
set_option maxHeartbeats 4000000 in
theorem Used_ok (h : Dk w tag p M D F u st) : Calls Try.prog 17 #[.pointer (some ⟨p, 0, none⟩)] w fun e w' => e = .returned (.int .i64 (if st.down = true then 0 else u)) ∧ w = w' := by
  obtain ⟨c0, c1, c2, c3, c4⟩ := Dk.cells h
  have H := Aside0.mk h
  cases hd : st.down
  · go_enter Try.func17, Try.ntmps17
    go_wp2_with (go_at_call 33; (with_reducible refine (up_ok _ _ _ _ _ _ _ _ H.out).mono ?_); rintro e w2 ⟨he, rfl⟩; rw [hd] at he; subst he)
    go_ret
    exact ⟨rfl, rfl⟩
  · go_enter Try.func17, Try.ntmps17
    go_wp2_with (go_at_call 33; (with_reducible refine (up_ok _ _ _ _ _ _ _ _ H.out).mono ?_); rintro e w2 ⟨he, rfl⟩; rw [hd] at he; subst he)
    go_ret
    exact ⟨rfl, rfl⟩
set_option maxHeartbeats 4000000 in
theorem Used_nil : Calls Try.prog 17 #[.pointer none] w fun e w' => e = .returned (.int .i64 0) ∧ w = w' := by
  go_enter Try.func17, Try.ntmps17
  go_wp2_with (go_at_call 33; (with_reducible refine (up_nil _).mono ?_); rintro e w2 ⟨rfl, rfl⟩)
  go_ret
  exact ⟨rfl, rfl⟩
set_option maxHeartbeats 4000000 in
theorem Fuse_ok (h : Dk w tag p M D F u st) (n : Int) : Calls Try.prog 11 #[.pointer (some ⟨p, 0, none⟩), .int .i64 n] w fun e w' => e = .returned (.tuple #[]) ∧ Dk w' tag p M D F u { st with fuse := max n (-1) } ∧ Turn w w' tag tag := by
  obtain ⟨c0, c1, c2, c3, c4⟩ := Dk.cells h
  have hf := Dk.froz h 3
  have H := h
  by_cases hn : n < -1
  · rw [show max n (-1) = -1 by omega]
    go_enter Try.func11, Try.ntmps11
    go_wp2
    go_end0
    exact ⟨rfl, Dk.setFuse H _, Turn.head H _ _⟩
  · rw [show max n (-1) = n by omega]
    go_enter Try.func11, Try.ntmps11
    go_wp2
    go_end0
    exact ⟨rfl, Dk.setFuse H _, Turn.head H _ _⟩
set_option maxHeartbeats 4000000 in
theorem Fuse_nil (n : Int) : Calls Try.prog 11 #[.pointer none, .int .i64 n] w fun e w' => e = .returned (.tuple #[]) ∧ w = w' := by
  go_enter Try.func11, Try.ntmps11
  go_wp2
  go_end0
  exact ⟨rfl, rfl⟩
end
end Go.Proofs.Ytcblcffkppiclaa.Dk
namespace Go.Proofs.Ytcblcffkppiclaa.Dk
open Go.RowKit Go.Maps Go.Proofs.Ytcblcffkppiclaa.DkMap Go.Proofs.YtcblcffkppiclaaW.PrintWords Go.Proofs.YtcblcffkppiclaaW.PrintLast Go.Proofs.YtcblcffkppiclaaW.PrintMore
attribute [local go_sem] max2_int min2_int max_two min_two max_three min_three max_four min_four
set_option linter.unusedVariables false
set_option linter.unusedSimpArgs false
def okc (c : UInt8) : Bool := (decide (97 ≤ c.toNat) && decide (c.toNat ≤ 122)) || (decide (48 ≤ c.toNat) && decide (c.toNat ≤ 57)) || c.toNat == 45 || c.toNat == 46
theorem isName_eq (l : List UInt8) : isName l = (l.all okc && decide (1 ≤ l.length) && decide (l.length ≤ 32)) := rfl
theorem isName_bad {l : List UInt8} {j : Nat} (hj : j < l.length) (h : okc (l.getD j 0) = false) : isName l = false := by
  rw [isName_eq]
  have : l.all okc = false := by
    rw [List.all_eq_false]
    refine ⟨l.getD j 0, ?_, by rw [h]; simp⟩
    rw [List.getD_eq_getElem?_getD, List.getElem?_eq_getElem hj]
    exact List.getElem_mem hj
  rw [this]; rfl
theorem all_step {l : List UInt8} {j : Nat} (hj : j < l.length) (h0 : (l.take j).all okc = true) (h : okc (l.getD j 0) = true) : (l.take (j + 1)).all okc = true := by
  rw [List.take_add_one, List.all_append, h0, List.getElem?_eq_getElem hj]
  rw [List.getD_eq_getElem?_getD, List.getElem?_eq_getElem hj] at h
  simpa using h
theorem below_bytes (w : World) (e : TypeId) (s : ByteArray) : Below w.heap.size w (Go.Lib.bytesWorld w e s) :=
  ⟨rfl, rfl, rfl, by rw [Go.Lib.bytesWorld_size]; omega, fun j hj => Go.Lib.bytesWorld_at_old w e s j hj⟩
set_option maxHeartbeats 4000000 in
theorem isName_ok (w : World) (s : ByteArray) (hs : s.size ≤ 9223372036854775807) : Calls Try.prog 35 #[.string s] w fun e w' => e = .returned (.bool (isName s.data.toList)) ∧ Below w.heap.size w w' := by
  have hl : s.data.toList.length = s.size := Array.length_toList
  have hrun := Go.Lib.run_convert_string_bytes (P := Try.prog) w 9 26 5 s (u := .string) (by kernel_rfl) (by kernel_rfl) (by kernel_rfl)
  have hbel := below_bytes w 5 s
  have hcell := fun j => Go.Lib.bytesWorld_cell w 5 s j
  have hb := Go.Lib.bytesWorld_at_new w 5 s
  generalize Go.Lib.bytesWorld w 5 s = wb at hrun hbel hcell hb
  go_enter Try.func35, Try.ntmps35
  go_wp2
  clear hrun
  go_loopw [4, 5, 6, 10] (fun _ _ _ k wr => ∃ j : Nat, j ≤ s.size ∧ k = .int .i64 j ∧ Aside0 ((s.data.toList.take j).all okc = true) ∧ wr = wb) (fun _ _ _ k _ => s.size - (intOf k).toNat)
  case atStart => exact ⟨0, Nat.zero_le _, rfl, ⟨by simp⟩, rfl⟩
  case round =>
    obtain ⟨j, hj, rfl, hA, rfl⟩ := hrel
    by_cases hlt : j < s.size
    · have hc := hcell j hlt
      have hb2 := isName_bad (l := s.data.toList) (j := j) (by omega)
      have hs2 := all_step (l := s.data.toList) (j := j) (by omega) hA.out
      generalize s.data.toList.getD j 0 = c at hc hb2 hs2
      have hx : c.toNat < 256 := c.toNat_lt
      have hoc : okc c = ((decide (97 ≤ c.toNat) && decide (c.toNat ≤ 122)) || (decide (48 ≤ c.toNat) && decide (c.toNat ≤ 57)) || c.toNat == 45 || c.toNat == 46) := rfl
      generalize c.toNat = x at hc hx hoc
      clear hA hcell
      have hcs : x < 45 ∨ x = 45 ∨ x = 46 ∨ (47 ≤ x ∧ x ≤ 47) ∨ (48 ≤ x ∧ x ≤ 57) ∨ (58 ≤ x ∧ x ≤ 96) ∨ (97 ≤ x ∧ x ≤ 122) ∨ 123 ≤ x := by omega
      rcases hcs with q1 | rfl | rfl | ⟨q1, q2⟩ | ⟨q1, q2⟩ | ⟨q1, q2⟩ | ⟨q1, q2⟩ | q1
      · have n1 : ((x : Int) != 45) = true := by rw [bne_iff_ne]; omega
        have n2 : ((x : Int) != 46) = true := by rw [bne_iff_ne]; omega
        have HB := Aside0.mk (hb2 (by rw [hoc]; simp <;> omega))
        clear hs2 hb2 hoc
        go_wp2
        go_ret
        exact ⟨by rw [HB.out]; rfl, hbel⟩
      · have HA := Aside0.mk (hs2 (by rw [hoc]; simp <;> omega))
        clear hs2 hb2 hoc
        go_wp2
        exact ⟨⟨j + 1, by omega, rfl, HA, trivial⟩, by simp [intOf]; omega⟩
      · have HA := Aside0.mk (hs2 (by rw [hoc]; simp <;> omega))
        clear hs2 hb2 hoc
        go_wp2
        exact ⟨⟨j + 1, by omega, rfl, HA, trivial⟩, by simp [intOf]; omega⟩
      · have n1 : ((x : Int) != 45) = true := by rw [bne_iff_ne]; omega
        have n2 : ((x : Int) != 46) = true := by rw [bne_iff_ne]; omega
        have HB := Aside0.mk (hb2 (by rw [hoc]; simp <;> omega))
        clear hs2 hb2 hoc
        go_wp2
        go_ret
        exact ⟨by rw [HB.out]; rfl, hbel⟩
      · have HA := Aside0.mk (hs2 (by rw [hoc]; simp <;> omega))
        clear hs2 hb2 hoc
        go_wp2
        exact ⟨⟨j + 1, by omega, rfl, HA, trivial⟩, by simp [intOf]; omega⟩
      · have n1 : ((x : Int) != 45) = true := by rw [bne_iff_ne]; omega
        have n2 : ((x : Int) != 46) = true := by rw [bne_iff_ne]; omega
        have n3 : (!decide ((x : Int) ≤ 57)) = true := by rw [decide_eq_false (by omega)]; rfl
        have HB := Aside0.mk (hb2 (by rw [hoc]; simp <;> omega))
        clear hs2 hb2 hoc
        go_wp2
        go_ret
        exact ⟨by rw [HB.out]; rfl, hbel⟩
      · have HA := Aside0.mk (hs2 (by rw [hoc]; simp <;> omega))
        clear hs2 hb2 hoc
        go_wp2
        exact ⟨⟨j + 1, by omega, rfl, HA, trivial⟩, by simp [intOf]; omega⟩
      · have n1 : ((x : Int) != 45) = true := by rw [bne_iff_ne]; omega
        have n2 : ((x : Int) != 46) = true := by rw [bne_iff_ne]; omega
        have n3 : (!decide ((x : Int) ≤ 122)) = true := by rw [decide_eq_false (by omega)]; rfl
        have n4 : (!decide ((x : Int) ≤ 57)) = true := by rw [decide_eq_false (by omega)]; rfl
        have HB := Aside0.mk (hb2 (by rw [hoc]; simp <;> omega))
        clear hs2 hb2 hoc
        go_wp2
        go_ret
        exact ⟨by rw [HB.out]; rfl, hbel⟩
    · have hje : j = s.size := by omega
      have HA := hA.out
      rw [hje, List.take_of_length_le (by omega)] at HA
      have hn := isName_eq s.data.toList
      rw [HA, hl] at hn
      have HN := Aside0.mk hn
      clear hn HA hcell hb hA hl
      by_cases c1 : 1 ≤ s.size
      · by_cases c2 : s.size ≤ 32
        · go_wp2
          go_ret
          exact ⟨by rw [HN.out, decide_eq_true c1, decide_eq_true c2]; show Ending.returned (.bool (decide ((s.size : Int) ≤ 32))) = _; rw [decide_eq_true (by omega : (s.size : Int) ≤ 32)]; rfl, hbel⟩
        · go_wp2
          go_ret
          exact ⟨by rw [HN.out, decide_eq_true c1, decide_eq_false c2]; show Ending.returned (.bool (decide ((s.size : Int) ≤ 32))) = _; rw [decide_eq_false (by omega : ¬ (s.size : Int) ≤ 32)]; rfl, hbel⟩
      · go_wp2
        go_ret
        exact ⟨by rw [HN.out, decide_eq_false c1]; rfl, hbel⟩
end Go.Proofs.Ytcblcffkppiclaa.Dk
namespace Go.Proofs.Ytcblcffkppiclaa.Dk
open Go.RowKit Go.Maps Go.Proofs.Ytcblcffkppiclaa.DkMap Go.Proofs.YtcblcffkppiclaaW.PrintWords Go.Proofs.YtcblcffkppiclaaW.PrintLast Go.Proofs.YtcblcffkppiclaaW.PrintMore
attribute [local go_sem] max2_int min2_int max_two min_two max_three min_three max_four min_four
set_option linter.unusedVariables false
set_option linter.unusedSimpArgs false
theorem K9 : Keyed Try.prog 9 := string_keyed Try.underlying9
theorem Dk.lookup {w : World} {tag : Tags} {p M : Nat} {D : DataW Unit} {F : List UInt8 → Option Nat} {u : Int} {st : St} (h : Dk w tag p M D F u st) (s : ByteArray) (hs : s.size ≤ maxLen) :
    (Instr.lookup 50 (.map (some M)) (.string s) false).run Try.prog w = .ok (ptr (F s.data.toList)) w :=
  h.mp.lookup K9 Try.underlying50 (by kernel_rfl) (Go.WideMaps.keyOf_string_mk Try.underlying9 hs)
theorem New_none (w : World) (n : Int) (h : n < 0 ∨ 1099511627776 < n) : Calls Try.prog 8 #[.int .i64 n] w fun e w' => e = .returned (.pointer none) ∧ w = w' := by
  rcases h with h | h
  · go_enter Try.func8, Try.ntmps8
    go_wp2
    go_ret
    exact ⟨rfl, rfl⟩
  · have h' : ¬ n < 0 := by omega
    go_enter Try.func8, Try.ntmps8
    go_wp2
    go_ret
    exact ⟨rfl, rfl⟩
def noTag : Tags := fun _ => none
theorem New_ok (w : World) (n : Nat) (hn : n ≤ 1099511627776) : Calls Try.prog 8 #[.int .i64 n] w fun e w' => ∃ p tag, e = .returned (.pointer (some ⟨p, 0, none⟩)) ∧ Dsk Try.prog w' tag p ⟨n, [], -1, false⟩ ∧ Turn w w' noTag tag := by
  have hmm := run_makeMap (P := Try.prog) 50 w
  go_enter Try.func8, Try.ntmps8
  go_wp2
  go_ret
  have hb : Below w.heap.size w ((w.alloc (.map #[] 0)).alloc (.cells #[.int .i64 n, .int .i64 0, .map (some w.heap.size), .int .i64 (-1), .bool false] 52)) := below_alloc (below_alloc (Below.refl _ _) _) _
  have hm := isMp_made (P := Try.prog) (k := 9) w
  have hs1 : (w.alloc (.map #[] 0)).heap.size = w.heap.size + 1 := by simp
  have hh := heap_alloc_new (w.alloc (.map #[] 0)) (.cells #[.int .i64 n, .int .i64 0, .map (some w.heap.size), .int .i64 (-1), .bool false] 52)
  rw [hs1] at hh
  have hk : ((w.alloc (.map #[] 0)).alloc (.cells #[.int .i64 n, .int .i64 0, .map (some w.heap.size), .int .i64 (-1), .bool false] 52)).heap[w.heap.size]? = (w.alloc (.map #[] 0)).heap[w.heap.size]? := (below_alloc (Below.refl (w.alloc (.map #[] 0)).heap.size (w.alloc (.map #[] 0))) _).block _ (by omega)
  have hs2 : ((w.alloc (.map #[] 0)).alloc (.cells #[.int .i64 n, .int .i64 0, .map (some w.heap.size), .int .i64 (-1), .bool false] 52)).heap.size = w.heap.size + 2 := by simp
  generalize ((w.alloc (.map #[] 0)).alloc (.cells #[.int .i64 n, .int .i64 0, .map (some w.heap.size), .int .i64 (-1), .bool false] 52)) = w2 at hb hh hk hs2
  refine ⟨w.heap.size + 1, fun k => if k = w.heap.size then some .map else if k = w.heap.size + 1 then some .disk else none, rfl, ⟨⟨by simp [keys], fun _ _ h => by simp [get] at h, by simp [used], hn, by simp, by simp, by simp⟩, w.heap.size, .map [], fun _ => none, ?_⟩, ?_⟩
  · refine ⟨hh, hm.kept hk, rfl, fun s x h => by simp [get] at h, fun _ _ => rfl, ?_, ?_, fun k hk => ?_⟩
    · show (if w.heap.size + 1 = w.heap.size then some Tag.map else if w.heap.size + 1 = w.heap.size + 1 then some Tag.disk else none) = _
      rw [if_neg (by omega), if_pos rfl]
    · show (if w.heap.size = w.heap.size then some Tag.map else if w.heap.size = w.heap.size + 1 then some Tag.disk else none) = _
      rw [if_pos rfl]
    · have hk3 : w.heap.size + 2 ≤ k := by rw [← hs2]; exact hk
      show (if k = w.heap.size then some Tag.map else if k = w.heap.size + 1 then some Tag.disk else none) = none
      rw [if_neg (by omega), if_neg (by omega)]
  · exact ⟨hb.os, hb.tape, hb.output, hb.size, fun k hk _ => hb.block k hk, fun k hk _ => by
      show (if k = w.heap.size then some Tag.map else if k = w.heap.size + 1 then some Tag.disk else none) = none
      rw [if_neg (by omega), if_neg (by omega)]⟩
set_option maxHeartbeats 4000000 in
theorem find_bad (w : World) (p : Nat) (s : ByteArray) (hs : s.size ≤ maxLen) (hn : isName s.data.toList = false) : Calls Try.prog 31 #[.pointer (some ⟨p, 0, none⟩), .string s] w fun e w' => e = .returned (.tuple #[.pointer none, .int .i64 1]) ∧ Below w.heap.size w w' := by
  unfold maxLen at hs
  go_enter Try.func31, Try.ntmps31
  go_wp2_with (go_at_call 35; (with_reducible refine (isName_ok _ s (by omega)).mono ?_); rintro e w2 ⟨he, hb⟩; rw [hn] at he; subst he)
  go_ret2
  exact ⟨rfl, hb⟩
set_option maxHeartbeats 4000000 in
theorem find_none (w : World) {tag : Tags} {p M : Nat} {D : DataW Unit} {F : List UInt8 → Option Nat} {u : Int} {st : St} (h : Dk w tag p M D F u st) (s : ByteArray) (hs : s.size ≤ maxLen) (hn : isName s.data.toList = true) (hg : get st.fl s.data.toList = none) :
    Calls Try.prog 31 #[.pointer (some ⟨p, 0, none⟩), .string s] w fun e w' => e = .returned (.tuple #[.pointer none, .int .i64 8]) ∧ Below w.heap.size w w' := by
  have hs2 : s.size ≤ 9223372036854775807 := by unfold maxLen at hs; omega
  have H := Aside0.mk h
  go_enter Try.func31, Try.ntmps31
  go_wp2_with (go_at_call 35; (with_reducible refine (isName_ok _ s hs2).mono ?_); rintro e w2 ⟨he, hb⟩; rw [hn] at he; subst he; have h2 := IsDk.below H.out hb; obtain ⟨c0, c1, c2, c3, c4⟩ := Dk.cells h2; have hlk : (Instr.lookup 50 (.map (some M)) (.string s) false).run Try.prog w2 = .ok (.pointer none) w2 := (by have e := Dk.lookup h2 s hs; rw [h2.away _ hg] at e; exact e))
  go_ret2
  exact ⟨rfl, hb⟩
set_option maxHeartbeats 4000000 in
theorem find_ok (w : World) {tag : Tags} {p M : Nat} {D : DataW Unit} {F : List UInt8 → Option Nat} {u : Int} {st : St} (h : Dk w tag p M D F u st) (s : ByteArray) (hs : s.size ≤ maxLen) (hn : isName s.data.toList = true) (k : Nat) (hg : F s.data.toList = some k) :
    Calls Try.prog 31 #[.pointer (some ⟨p, 0, none⟩), .string s] w fun e w' => e = .returned (.tuple #[.pointer (some ⟨k, 0, none⟩), .int .i64 0]) ∧ Below w.heap.size w w' := by
  have hs2 : s.size ≤ 9223372036854775807 := by unfold maxLen at hs; omega
  have H := Aside0.mk h
  go_enter Try.func31, Try.ntmps31
  go_wp2_with (go_at_call 35; (with_reducible refine (isName_ok _ s hs2).mono ?_); rintro e w2 ⟨he, hb⟩; rw [hn] at he; subst he; have h2 := IsDk.below H.out hb; obtain ⟨c0, c1, c2, c3, c4⟩ := Dk.cells h2; have hlk : (Instr.lookup 50 (.map (some M)) (.string s) false).run Try.prog w2 = .ok (.pointer (some ⟨k, 0, none⟩)) w2 := (by have e := Dk.lookup h2 s hs; rw [hg] at e; exact e))
  go_ret2
  exact ⟨rfl, hb⟩
end Go.Proofs.Ytcblcffkppiclaa.Dk
namespace Go.Proofs.Ytcblcffkppiclaa.Dk
open Go.RowKit Go.Maps Go.Proofs.Ytcblcffkppiclaa.DkMap Go.Proofs.YtcblcffkppiclaaW.PrintWords Go.Proofs.YtcblcffkppiclaaW.PrintLast Go.Proofs.YtcblcffkppiclaaW.PrintMore
attribute [local go_sem] max2_int min2_int max_two min_two max_three min_three max_four min_four
set_option linter.unusedVariables false
set_option linter.unusedSimpArgs false
section
variable {w : World} {tag : Tags} {p M : Nat} {D : DataW Unit} {F : List UInt8 → Option Nat} {st : St}
theorem Dk.look (h : Dk w tag p M D F (used st.fl) st) (s : ByteArray) (hs : s.size ≤ maxLen) (x : Option Nat) (hx : F s.data.toList = x) :
    (Instr.lookup 50 (.map (some M)) (.string s) false).run Try.prog w = .ok (ptr x) w := by rw [← hx]; exact Dk.lookup h s hs
theorem Dk.lens (h : Dk w tag p M D F (used st.fl) st) : (Builtin.len_ #[50] 3 #[.map (some M)]).run Try.prog w = .ok (.int .i64 st.fl.length) w := by
  have := h.mp.own.len Try.underlying50 3
  rw [h.size] at this
  exact this
end
section
variable (w : World) (tag : Tags) (p M : Nat) (D : DataW Unit) (F : List UInt8 → Option Nat) (st : St)
set_option maxHeartbeats 4000000 in
theorem put_bad (h : Dk w tag p M D F (used st.fl) st) (s : ByteArray) (hs : s.size ≤ maxLen) (hn : isName s.data.toList = false) (b : Value) : Calls Try.prog 24 #[.pointer (some ⟨p, 0, none⟩), .string s, b] w fun e w' => e = .returned (.int .i64 1) ∧ Below w.heap.size w w' := by
  have hs2 : s.size ≤ 9223372036854775807 := by unfold maxLen at hs; omega
  obtain ⟨c0, c1, c2, c3, c4⟩ := Dk.cells h
  have hlk := Dk.look h s hs _ rfl
  go_enter Try.func24, Try.ntmps24
  go_wp2_with (go_at_call 35; (with_reducible refine (isName_ok _ s hs2).mono ?_); rintro e w2 ⟨he, hb⟩; rw [hn] at he; subst he)
  go_ret
  exact ⟨rfl, hb⟩
set_option maxHeartbeats 4000000 in
theorem put_many (h : Dk w tag p M D F (used st.fl) st) (s : ByteArray) (hs : s.size ≤ maxLen) (hn : isName s.data.toList = true) (hg : get st.fl s.data.toList = none) (hl : st.fl.length = 65536) (b : Value) : Calls Try.prog 24 #[.pointer (some ⟨p, 0, none⟩), .string s, b] w fun e w' => e = .returned (.int .i64 12) ∧ Below w.heap.size w w' := by
  have hs2 : s.size ≤ 9223372036854775807 := by unfold maxLen at hs; omega
  obtain ⟨c0, c1, c2, c3, c4⟩ := Dk.cells h
  have hlk : (Instr.lookup 50 (.map (some M)) (.string s) false).run Try.prog w = .ok (.pointer none) w := Dk.look h s hs none (h.away _ hg)
  have H := Aside0.mk h
  go_enter Try.func24, Try.ntmps24
  go_wp2_with (go_at_call 35; (with_reducible refine (isName_ok _ s hs2).mono ?_); rintro e w2 ⟨he, hb⟩; rw [hn] at he; subst he; have h2 := IsDk.below H.out hb; obtain ⟨d0, d1, d2, d3, d4⟩ := Dk.cells h2; have hlen := Dk.lens h2; rw [hl] at hlen)
  go_ret
  exact ⟨rfl, hb⟩
set_option maxHeartbeats 4000000 in
theorem put_full (h : Dk w tag p M D F (used st.fl) st) (hok : st.Ok) (s : ByteArray) (hs : s.size ≤ maxLen) (hn : isName s.data.toList = true) (x : Option Nat) (hx : F s.data.toList = x) (hl : x = none → st.fl.length ≠ 65536) (A : Option Addr) (m c : Nat) (hm : m ≤ 140737488355328) (hfull : st.room < used st.fl + m) :
    Calls Try.prog 24 #[.pointer (some ⟨p, 0, none⟩), .string s, .slice A m c] w fun e w' => e = .returned (.int .i64 7) ∧ Below w.heap.size w w' := by
  have hs2 : s.size ≤ 9223372036854775807 := by unfold maxLen at hs; omega
  obtain ⟨c0, c1, c2, c3, c4⟩ := Dk.cells h
  have hfits := hok.fits
  have hroom := hok.room
  have hw : IntKind.i64.wrap ((st.room : Int) - (used st.fl : Int)) = (st.room : Int) - used st.fl := (IntKind.wrap_i64 _).trans (by omega)
  have hgt : (st.room : Int) - used st.fl < (m : Int) := by omega
  have H := Aside0.mk h
  cases x with
  | none =>
    have hlk : (Instr.lookup 50 (.map (some M)) (.string s) false).run Try.prog w = .ok (.pointer none) w := Dk.look h s hs none hx
    have hl0 := hl rfl
    go_enter Try.func24, Try.ntmps24
    go_wp2_with (go_at_call 35; (with_reducible refine (isName_ok _ s hs2).mono ?_); rintro e w2 ⟨he, hb⟩; rw [hn] at he; subst he; have h2 := IsDk.below H.out hb; obtain ⟨d0, d1, d2, d3, d4⟩ := Dk.cells h2; have hlen := Dk.lens h2)
    go_region
    go_wp2
    go_ret
    exact ⟨rfl, below_drew1 hb⟩
  | some k =>
    have hlk : (Instr.lookup 50 (.map (some M)) (.string s) false).run Try.prog w = .ok (.pointer (some ⟨k, 0, none⟩)) w := Dk.look h s hs (some k) hx
    go_enter Try.func24, Try.ntmps24
    go_wp2_with (go_at_call 35; (with_reducible refine (isName_ok _ s hs2).mono ?_); rintro e w2 ⟨he, hb⟩; rw [hn] at he; subst he; have h2 := IsDk.below H.out hb; obtain ⟨d0, d1, d2, d3, d4⟩ := Dk.cells h2)
    go_region
    go_wp2
    go_ret
    exact ⟨rfl, below_drew1 hb⟩
end
end Go.Proofs.Ytcblcffkppiclaa.Dk
