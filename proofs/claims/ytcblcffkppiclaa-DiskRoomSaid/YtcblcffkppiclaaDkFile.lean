/- A file's bytes turn; a file is added, or taken away. -/
import Derived.Test.YtcblcffkppiclaaDkRow
namespace Go.Proofs.Ytcblcffkppiclaa.Dk
open Go.RowKit Go.Maps Go.Proofs.Ytcblcffkppiclaa.DkMap Go.Proofs.YtcblcffkppiclaaW.PrintWords Go.Proofs.YtcblcffkppiclaaW.PrintLast Go.Proofs.YtcblcffkppiclaaW.PrintMore
set_option linter.unusedVariables false
set_option linter.unusedSimpArgs false
theorem put_put (l : Fl) (s : List UInt8) (a b : Fi) : put (put l s a) s b = put l s b := by
  induction l with
  | nil => simp [put]
  | cons x r ih =>
    obtain ⟨k, y⟩ := x
    by_cases h : k = s
    · subst h; simp [put]
    · have e1 : ∀ (r : Fl) (z : Fi), put ((k, y) :: r) s z = (k, y) :: put r s z := fun r z => by rw [put, if_neg h]
      rw [e1, e1, e1, ih]
theorem put_same {l : Fl} {s : List UInt8} {a : Fi} (h : get l s = some a) : put l s a = l := by
  induction l with
  | nil => simp [get] at h
  | cons x r ih =>
    obtain ⟨k, y⟩ := x
    unfold get at h
    unfold put
    by_cases e : k = s
    · rw [if_pos e] at h; cases h; rw [if_pos e, e]
    · rw [if_neg e] at h; rw [if_neg e, ih h]
section
variable {w w3 : World} {tag tag' : Tags} {p M : Nat} {D : DataW Unit} {F : List UInt8 → Option Nat} {u : Int} {st : St} {s : List UInt8} {x : Fi} {k : Nat}
theorem Dk.ltag (h : Dk w tag p M D F u st) {j : Nat} {t : Tag} (ht : tag j = some t) : j < w.heap.size := by
  rcases Nat.lt_or_ge j w.heap.size with h1 | h1
  · exact h1
  · rw [h.fresh j h1] at ht; cases ht
/-- A file's bytes are others: its row has turned, and its block's cells are written. -/
theorem Dk.wrote (h : Dk w tag p M D F u st) (hg : get st.fl s = some x) (hF : F s = some k) (hk : tag k = some (.file s)) {v' : Value} {y : Fi} (hT : RTurn w w3 tag tag' s) (hR : FRow w3 tag' s v' y.b) {w4 : World}
    (hb : w4.heap[k]? = some (.cells #[v', .int .i64 y.sure] 57 (0, 0))) (ho : w4.os = w3.os) (htp : w4.tape = w3.tape) (hou : w4.output = w3.output) (hs : w4.heap.size = w3.heap.size) (hsame : ∀ j, j ≠ k → w4.heap[j]? = w3.heap[j]?) :
    Dk w4 tag' p M D F u { st with fl := put st.fl s y } ∧ Turn w w4 tag tag' := by
  have hlen : (put st.fl s y).length = st.fl.length := by rw [len_put, hg]; rfl
  have hkl := h.ltag hk
  have hk' : tag' k = some (.file s) := (hT.same k hkl).trans hk
  have hM : w4.heap[M]? = w.heap[M]? := (hsame M (fun e => by have := h.tm; rw [e, hk] at this; cases this)).trans (hT.block M h.ltM (by rw [h.tm]; intro e; cases e))
  refine ⟨h.setFile (fun t ht => by rw [get_put, if_neg ht]) (by rw [get_put, if_pos rfl]) (by rw [hlen]; exact h.mp.kept hM) (by rw [hlen]; exact h.size) (fun _ _ => rfl) hF ⟨v', hb, hk', hR.same (fun j hj => hsame j (fun e => by rw [e, hk'] at hj; cases hj)) (fun _ h => h)⟩ (by rw [hs]; exact hT.size) (fun j t hj h1 h2 h3 => (hsame j (fun e => by rw [e, hk] at hj; cases hj; exact h2 rfl)).trans (hT.block j (h.ltag hj) (fun e => by rw [hj] at e; cases e; exact h1 rfl))) (fun j t hj h1 h2 => (hT.same j (h.ltag hj)).trans hj) (fun j hj => hT.fresh j (by rw [hs] at hj; exact hj)), ?_⟩
  exact ⟨ho.trans hT.os, htp.trans hT.tape, hou.trans hT.output, by rw [hs]; exact hT.size, fun j hj ht => (hsame j (fun e => by rw [e, hk] at ht; cases ht)).trans (hT.block j hj (by rw [ht]; intro e; cases e)), fun j hj ht => (hT.same j hj).trans ht⟩
theorem RTurn.refl (h : Dk w tag p M D F u st) (s : List UInt8) : RTurn w w tag tag s := ⟨rfl, rfl, rfl, Nat.le_refl _, fun _ _ _ => rfl, fun _ _ => rfl, h.fresh⟩
/-- A file is added. -/
theorem Dk.added (h : Dk w tag p M D F u st) (hg : get st.fl s = none) {w4 : World} (hown : w4.ownsMap Try.prog 9 ptrElem M (st.fl.length + 1) (D.put (.string s) (.lit (.int .u64 (w.heap.size : Int)))))
    (hgr : (w.alloc (.cells #[.slice none 0 0, .int .i64 0] 57)).grownBy w4 (some M)) :
    ∃ tag1, tag1 w.heap.size = some (.file s) ∧ Dk w4 tag1 p M (D.put (.string s) (.lit (.int .u64 (w.heap.size : Int)))) (upd F s (some w.heap.size)) u { st with fl := put st.fl s ⟨[], 0⟩ } ∧ Turn w w4 tag tag1 := by
  have hlen : (put st.fl s ⟨[], 0⟩).length = st.fl.length + 1 := by rw [len_put, hg]; rfl
  have hMl := h.ltM
  have hB := below_alloc (Below.refl w.heap.size w) (.cells #[.slice none 0 0, .int .i64 0] 57)
  have hsz : (w.alloc (.cells #[.slice none 0 0, .int .i64 0] 57)).heap.size = w.heap.size + 1 := by simp
  have hnew := heap_alloc_new w (.cells #[.slice none 0 0, .int .i64 0] 57)
  have hs4 := hgr.size
  rw [hsz] at hs4
  have hold : ∀ j, j < w.heap.size → j ≠ M → w4.heap[j]? = w.heap[j]? := fun j hj hne => (hgr.block j (by rw [hsz]; omega) (by simpa using hne)).trans (hB.block j hj)
  have ht1 : ∀ j, j ≠ w.heap.size → (if j = w.heap.size then some (Tag.file s) else tag j) = tag j := fun j hj => if_neg hj
  have hfs : Maps.has D (.string s) = false := by rw [h.mp.has, h.away s hg]; rfl
  refine ⟨fun j => if j = w.heap.size then some (.file s) else tag j, if_pos rfl, ?_, ?_⟩
  · refine h.setFile (k := w.heap.size) (fun t ht => by rw [get_put, if_neg ht]) (by rw [get_put, if_pos rfl]) (by rw [hlen]; exact h.mp.put hown) ?_ (fun t ht => if_neg ht) (if_pos rfl) ⟨.slice none 0 0, ?_, if_pos rfl, .inl ⟨rfl, rfl⟩⟩ (by omega) (fun j t hj h1 h2 h3 => hold j (h.ltag hj) (fun e => by rw [e, h.tm] at hj; cases hj; exact h3 rfl)) (fun j t hj h1 h2 => by have := h.ltag hj; exact (ht1 j (by omega)).trans hj) (fun j hj => ?_)
    · rw [hlen, size_put (h.mp.own.tidy K9), hfs, h.size]; rfl
    · exact (hgr.block w.heap.size (by rw [hsz]; omega) (by simp; omega)).trans hnew
    · have hj2 : w.heap.size + 1 ≤ j := by omega
      exact (ht1 j (by omega)).trans (h.fresh j (by omega))
  · exact ⟨hgr.os.trans hB.os, hgr.tape.trans hB.tape, hgr.output.trans hB.output, by omega, fun j hj ht => hold j hj (fun e => by rw [e, h.tm] at ht; cases ht), fun j hj ht => (ht1 j (by omega)).trans ht⟩
/-- A file is taken away. -/
theorem Dk.dropped (h : Dk w tag p M D F u st) (hok : (keys st.fl).Nodup) {w4 : World} {n' : Nat} (hown : w4.ownsMap Try.prog 9 ptrElem M n' (D.del (.string s))) (hgr : w.grownBy w4 (some M)) :
    Dk w4 tag p M (D.del (.string s)) (upd F s none) u { st with fl := del st.fl s } ∧ Turn w w4 tag tag := by
  have hsz : Maps.size (D.del (.string s)) = (del st.fl s).length := by
    have h1 := size_del (h.mp.own.tidy K9) (k := .string s)
    rw [h.size, h.mp.has] at h1
    rw [len_del]
    cases hg : get st.fl s with
    | none => rw [h.away s hg] at h1; simpa using h1
    | some x =>
      obtain ⟨k, hk, _⟩ := h.file s x hg
      rw [hk] at h1
      simp at h1
      simp
      omega
  have hown2 : w4.ownsMap Try.prog 9 ptrElem M (del st.fl s).length (D.del (.string s)) := by
    obtain ⟨es, clock, hb, Ft, hs, hD⟩ := hown
    refine ⟨es, clock, hb, Ft, ?_, hD⟩
    have : Maps.size (D.del (.string s)) = es.size := by rw [hD, size_eq, length_read]
    omega
  refine ⟨h.delFile (fun t ht => by rw [get_del hok, if_neg ht]) (by rw [get_del hok, if_pos rfl]) (h.mp.del hown2) hsz (fun t ht => if_neg ht) (if_pos rfl) hgr.size (fun j t hj h1 => hgr.block j (h.ltag hj) (fun e => by injection e with e; rw [e, h.tm] at hj; cases hj; exact h1 rfl)), ?_⟩
  exact ⟨hgr.os, hgr.tape, hgr.output, hgr.size, fun j hj ht => hgr.block j hj (fun e => by injection e with e; rw [e, h.tm] at ht; cases ht), fun _ _ h => h⟩
end
end Go.Proofs.Ytcblcffkppiclaa.Dk
