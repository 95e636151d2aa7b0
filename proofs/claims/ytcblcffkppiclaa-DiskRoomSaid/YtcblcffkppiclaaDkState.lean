/- The disk in memory: its block, its map, and for each file a block and a row; whose block is whose is told by tags. -/
import Derived.Test.YtcblcffkppiclaaDkMap
import Derived.Test.YtcblcffkppiclaaDkPure
namespace Go.Proofs.Ytcblcffkppiclaa.Dk
open Go.RowKit Go.Maps Go.Proofs.Ytcblcffkppiclaa.DkMap
set_option linter.unusedVariables false
inductive Tag where
  | disk
  | map
  | file (s : List UInt8)
  | row (s : List UInt8)
abbrev Tags := Nat → Option Tag
/-- v is a file's row in memory. -/
def FRow (w : World) (tag : Tags) (s : List UInt8) (v : Value) (xs : List Int) : Prop :=
  (v = .slice none 0 0 ∧ xs = []) ∨ ∃ R cap cur, v = .slice (some ⟨R, 0, none⟩) xs.length cap ∧ w.heap[R]? = some (.cells cur 5 (0, 0)) ∧ xs.length ≤ cap ∧ cap ≤ cur.size ∧ cap ≤ maxLen ∧ cur.toList.take xs.length = xs.map (Value.int .u8) ∧ tag R = some (.row s)
/-- A file in memory. -/
def FBlk (w : World) (tag : Tags) (s : List UInt8) (x : Fi) (k : Nat) : Prop :=
  ∃ v, w.heap[k]? = some (.cells #[v, .int .i64 x.sure] 57 (0, 0)) ∧ tag k = some (.file s) ∧ FRow w tag s v x.b
structure IsDk (P : Program) (w : World) (tag : Tags) (p M : Nat) (D : DataW Unit) (F : List UInt8 → Option Nat) (u : Int) (st : St) : Prop where
  head : w.heap[p]? = some (.cells #[.int .i64 st.room, .int .i64 u, .map (some M), .int .i64 st.fuse, .bool st.down] 52 (0, 0))
  mp : IsMp P 9 w M st.fl.length D F
  size : Maps.size D = st.fl.length
  file : ∀ s x, get st.fl s = some x → ∃ k, F s = some k ∧ FBlk w tag s x k
  away : ∀ s, get st.fl s = none → F s = none
  tp : tag p = some .disk
  tm : tag M = some .map
  fresh : ∀ k, w.heap.size ≤ k → tag k = none
def Dsk (P : Program) (w : World) (tag : Tags) (p : Nat) (st : St) : Prop := st.Ok ∧ ∃ M D F, IsDk P w tag p M D F (used st.fl) st
/-- What a call on the disk leaves as it is. -/
structure Turn (w w' : World) (tag tag' : Tags) : Prop where
  os : w'.os = w.os
  tape : w'.tape = w.tape
  output : w'.output = w.output
  size : w.heap.size ≤ w'.heap.size
  block : ∀ k, k < w.heap.size → tag k = none → w'.heap[k]? = w.heap[k]?
  tags : ∀ k, k < w.heap.size → tag k = none → tag' k = none
theorem Turn.refl (w : World) (tag : Tags) : Turn w w tag tag := ⟨rfl, rfl, rfl, Nat.le_refl _, fun _ _ _ => rfl, fun _ _ h => h⟩
theorem Turn.trans {w w' w'' : World} {t t' t'' : Tags} (h : Turn w w' t t') (h' : Turn w' w'' t' t'') : Turn w w'' t t'' :=
  ⟨h'.os.trans h.os, h'.tape.trans h.tape, h'.output.trans h.output, Nat.le_trans h.size h'.size, fun k hk ht => (h'.block k (Nat.lt_of_lt_of_le hk h.size) (h.tags k hk ht)).trans (h.block k hk ht), fun k hk ht => h'.tags k (Nat.lt_of_lt_of_le hk h.size) (h.tags k hk ht)⟩
theorem Turn.below {w w' : World} {tag : Tags} (h : Below w.heap.size w w') : Turn w w' tag tag :=
  ⟨h.os, h.tape, h.output, h.size, fun k hk _ => h.block k hk, fun _ _ h => h⟩
section
variable {P : Program} {w w' : World} {tag tag' : Tags} {p M : Nat} {D : DataW Unit} {F : List UInt8 → Option Nat} {u : Int} {st : St}
theorem FRow.same {s : List UInt8} {v : Value} {xs : List Int} (h : FRow w tag s v xs) (hk : ∀ k, tag k = some (.row s) → w'.heap[k]? = w.heap[k]?) (ht : ∀ k, tag k = some (.row s) → tag' k = some (.row s)) : FRow w' tag' s v xs := by
  rcases h with h | ⟨R, cap, cur, h1, h2, h3, h4, h5, h6, h7⟩
  · exact .inl h
  · exact .inr ⟨R, cap, cur, h1, (hk R h7).trans h2, h3, h4, h5, h6, ht R h7⟩
theorem FBlk.same {s : List UInt8} {x : Fi} {k : Nat} (h : FBlk w tag s x k) (hk : ∀ k, tag k = some (.row s) ∨ tag k = some (.file s) → w'.heap[k]? = w.heap[k]?) (ht : ∀ k t, t = Tag.row s ∨ t = Tag.file s → tag k = some t → tag' k = some t) : FBlk w' tag' s x k := by
  obtain ⟨v, h1, h2, h3⟩ := h
  exact ⟨v, (hk k (.inr h2)).trans h1, ht k _ (.inr rfl) h2, h3.same (fun k hk2 => hk k (.inl hk2)) (fun k hk2 => ht k _ (.inl rfl) hk2)⟩
theorem IsDk.lt (h : IsDk P w tag p M D F u st) : p < w.heap.size := (Array.getElem?_eq_some_iff.1 h.head).1
theorem IsDk.ltM (h : IsDk P w tag p M D F u st) : M < w.heap.size := by
  obtain ⟨es, clock, hb, _⟩ := h.mp.own
  exact (Array.getElem?_eq_some_iff.1 hb).1
theorem IsDk.pM (h : IsDk P w tag p M D F u st) : p ≠ M := by
  intro e; have := h.tp; rw [e, h.tm] at this; cases this
theorem FBlk.lt {s : List UInt8} {x : Fi} {k : Nat} (h : FBlk w tag s x k) : k < w.heap.size := by
  obtain ⟨v, h1, _⟩ := h
  exact (Array.getElem?_eq_some_iff.1 h1).1
/-- Nothing of the disk's has turned. -/
theorem IsDk.same (h : IsDk P w tag p M D F u st) (hs : w.heap.size ≤ w'.heap.size) (hk : ∀ k, (tag k).isSome = true → w'.heap[k]? = w.heap[k]?) : IsDk P w' tag p M D F u st :=
  ⟨(hk p (by rw [h.tp]; rfl)).trans h.head, h.mp.kept (hk M (by rw [h.tm]; rfl)), h.size,
    fun s x hx => by obtain ⟨k, h1, h2⟩ := h.file s x hx; exact ⟨k, h1, h2.same (fun k ht => hk k (by rcases ht with ht | ht <;> rw [ht] <;> rfl)) (fun _ _ _ ht => ht)⟩,
    h.away, h.tp, h.tm, fun k hk => h.fresh k (by omega)⟩
theorem IsDk.below (h : IsDk P w tag p M D F u st) (hb : Below w.heap.size w w') : IsDk P w' tag p M D F u st :=
  h.same hb.size (fun k hk => by
    rcases Nat.lt_or_ge k w.heap.size with h1 | h1
    · exact hb.block k h1
    · rw [h.fresh k h1] at hk; cases hk)
/-- The disk's own block is written. -/
theorem IsDk.setHead (h : IsDk P w tag p M D F u st) {st' : St} {u' : Int} (hf : st'.fl = st.fl) (hp : w'.heap[p]? = some (.cells #[.int .i64 st'.room, .int .i64 u', .map (some M), .int .i64 st'.fuse, .bool st'.down] 52 (0, 0))) (hs : w.heap.size ≤ w'.heap.size) (hk : ∀ k, k ≠ p → k < w.heap.size → w'.heap[k]? = w.heap[k]?) : IsDk P w' tag p M D F u' st' := by
  have hk2 : ∀ k t, tag k = some t → t ≠ .disk → w'.heap[k]? = w.heap[k]? := fun k t ht hne => hk k (fun e => by rw [e, h.tp] at ht; cases ht; exact hne rfl) (by
    rcases Nat.lt_or_ge k w.heap.size with h1 | h1
    · exact h1
    · rw [h.fresh k h1] at ht; cases ht)
  refine ⟨hp, ?_, by rw [hf]; exact h.size, fun s x hx => ?_, fun s hx => h.away s (by rw [← hf]; exact hx), h.tp, h.tm, fun k hk => h.fresh k (by omega)⟩
  · rw [hf]
    exact h.mp.kept (hk2 M .map h.tm (by intro e; cases e))
  · rw [hf] at hx
    obtain ⟨k, h1, h2⟩ := h.file s x hx
    exact ⟨k, h1, h2.same (fun k ht => by rcases ht with ht | ht <;> exact hk2 k _ ht (by intro e; cases e)) (fun _ _ _ ht => ht)⟩
/-- One file is set: its block and its row are what they are said to be, the rest has stayed; the map may have turned. -/
theorem IsDk.setFile (h : IsDk P w tag p M D F u st) {s : List UInt8} {x : Fi} {k : Nat} {D' : DataW Unit} {F' : List UInt8 → Option Nat} {fl' : Fl} (hg : ∀ t, t ≠ s → get fl' t = get st.fl t) (hgs : get fl' s = some x)
    (hmp : IsMp P 9 w' M fl'.length D' F') (hsz : Maps.size D' = fl'.length) (hF : ∀ t, t ≠ s → F' t = F t) (hFs : F' s = some k) (hb : FBlk w' tag' s x k)
    (hs : w.heap.size ≤ w'.heap.size) (hk : ∀ j t, tag j = some t → t ≠ .row s → t ≠ .file s → t ≠ .map → w'.heap[j]? = w.heap[j]?) (ht : ∀ j t, tag j = some t → t ≠ .row s → t ≠ .file s → tag' j = some t) (hfr : ∀ j, w'.heap.size ≤ j → tag' j = none) :
    IsDk P w' tag' p M D' F' u { st with fl := fl' } := by
  refine ⟨(hk p _ h.tp (by intro e; cases e) (by intro e; cases e) (by intro e; cases e)).trans h.head, hmp, hsz, fun t y hy => ?_, fun t hn => ?_, ht p _ h.tp (by intro e; cases e) (by intro e; cases e), ht M _ h.tm (by intro e; cases e) (by intro e; cases e), hfr⟩
  · by_cases e : t = s
    · subst e
      rw [hgs] at hy
      cases hy
      exact ⟨k, hFs, hb⟩
    · simp only at hy
      rw [hg t e] at hy
      obtain ⟨k2, h1, h2⟩ := h.file t y hy
      refine ⟨k2, by rw [hF t e]; exact h1, h2.same (fun j hj => ?_) (fun j t2 h3 h4 => ?_)⟩
      · rcases hj with hj | hj
        · exact hk j _ hj (by intro e2; cases e2; exact e rfl) (by intro e2; cases e2) (by intro e2; cases e2)
        · exact hk j _ hj (by intro e2; cases e2) (by intro e2; cases e2; exact e rfl) (by intro e2; cases e2)
      · rcases h3 with rfl | rfl
        · exact ht j _ h4 (by intro e2; cases e2; exact e rfl) (by intro e2; cases e2)
        · exact ht j _ h4 (by intro e2; cases e2) (by intro e2; cases e2; exact e rfl)
  · by_cases e : t = s
    · subst e; simp only at hn; rw [hgs] at hn; cases hn
    · simp only at hn; rw [hg t e] at hn; rw [hF t e]; exact h.away t hn
/-- One file is away. -/
theorem IsDk.delFile (h : IsDk P w tag p M D F u st) {s : List UInt8} {D' : DataW Unit} {F' : List UInt8 → Option Nat} {fl' : Fl} (hg : ∀ t, t ≠ s → get fl' t = get st.fl t) (hgs : get fl' s = none)
    (hmp : IsMp P 9 w' M fl'.length D' F') (hsz : Maps.size D' = fl'.length) (hF : ∀ t, t ≠ s → F' t = F t) (hFs : F' s = Option.none)
    (hs : w.heap.size ≤ w'.heap.size) (hk : ∀ j t, tag j = some t → t ≠ .map → w'.heap[j]? = w.heap[j]?) : IsDk P w' tag p M D' F' u { st with fl := fl' } := by
  refine ⟨(hk p _ h.tp (by intro e; cases e)).trans h.head, hmp, hsz, fun t y hy => ?_, fun t hn => ?_, h.tp, h.tm, fun k hk => h.fresh k (by omega)⟩
  · by_cases e : t = s
    · subst e; simp only at hy; rw [hgs] at hy; cases hy
    · simp only at hy
      rw [hg t e] at hy
      obtain ⟨k2, h1, h2⟩ := h.file t y hy
      exact ⟨k2, by rw [hF t e]; exact h1, h2.same (fun j hj => by rcases hj with hj | hj <;> exact hk j _ hj (by intro e2; cases e2)) (fun _ _ _ ht => ht)⟩
  · by_cases e : t = s
    · subst e; exact hFs
    · simp only at hn; rw [hg t e] at hn; rw [hF t e]; exact h.away t hn
end
end Go.Proofs.Ytcblcffkppiclaa.Dk
