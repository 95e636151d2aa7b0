/- Bytes put behind a file's row. A file's bytes turn; a file is added, or taken away. Bytes behind a file's. Append; a deed; Sync; Read. A deed that stops; Sync; Read. -/
import Derived.Test.YtcblcffkppiclaaDmA
namespace Go.Proofs.Ytcblcffkppiclaa.Dk
open Go.RowKit Go.Maps Go.Proofs.Ytcblcffkppiclaa.DkMap Go.Proofs.YtcblcffkppiclaaW.PrintWords Go.Proofs.YtcblcffkppiclaaW.PrintLast Go.Proofs.YtcblcffkppiclaaW.PrintMore
set_option linter.unusedVariables false
set_option linter.unusedSimpArgs false
theorem info5 : (Try.prog.info? 5).map (fun i => (i.zero, i.size, i.bytes)) = some (some (.int .u8 0), 1, 1) := by kernel_rfl
/-- One file's row has turned, nothing else. -/
structure RTurn (w w' : World) (tag tag' : Tags) (s : List UInt8) : Prop where
  os : w'.os = w.os
  tape : w'.tape = w.tape
  output : w'.output = w.output
  size : w.heap.size ≤ w'.heap.size
  block : ∀ k, k < w.heap.size → tag k ≠ some (.row s) → w'.heap[k]? = w.heap[k]?
  same : ∀ k, k < w.heap.size → tag' k = tag k
  fresh : ∀ k, w'.heap.size ≤ k → tag' k = none
theorem pre_cell {w : World} {R : Nat} {cur : Array Value} {xs : List Int} (h : w.heap[R]? = some (.cells cur 5 (0, 0))) (ht : cur.toList.take xs.length = xs.map (Value.int .u8)) {j : Nat} {u : Int} (hj : xs[j]? = some u) : w.cell? ⟨R, j, none⟩ = some (.int .u8 u) := by
  rw [blk_cell h j]
  obtain ⟨hlt, rfl⟩ := List.getElem?_eq_some_iff.1 hj
  have h4 := congrArg (fun l => l[j]?) ht
  simp only [List.getElem?_take, hlt, if_true, List.getElem?_map, Array.getElem?_toList] at h4
  rw [h4]
  simp [hlt]
theorem ssc_other (g : Nat) : ∀ (vs : List Value) (o : Nat) (w : World) (k : Nat), k ≠ g → (w.setCells g o vs).heap[k]? = w.heap[k]?
  | [], _, _, _, _ => rfl
  | v :: r, o, w, k, h => by
    rw [World.setCells]
    exact (ssc_other g r (o + 1) _ k h).trans (Below.heap_setCell w ⟨g, o, none⟩ v k h)
/-- A row that was made since is the file's. -/
theorem RTurn.made {w w' : World} {tag : Tags} {s : List UInt8} {v : Value} {zs : List Int} {n : Nat} (hn : n = zs.length) (hfr : ∀ k, w.heap.size ≤ k → tag k = none) (how : w'.ownsRow w.heap.size 5 1 v n (zs.map (Value.int .u8))) (hg : w.grownBy w' none) :
    ∃ tag', FRow w' tag' s v zs ∧ RTurn w w' tag tag' s := by
  subst hn
  obtain ⟨_, h⟩ := how
  rcases h with ⟨rfl, h0⟩ | ⟨g, cap, cur, rfl, hb, hh, hle, hmx, hsz, htk⟩
  · refine ⟨tag, .inl ⟨rfl, List.eq_nil_of_length_eq_zero h0⟩, hg.os, hg.tape, hg.output, hg.size, fun k hk _ => hg.block k hk (by simp), fun _ _ => rfl, fun k hk => hfr k (Nat.le_trans hg.size hk)⟩
  · have hlt := blk_lt hh
    refine ⟨fun k => if k = g then some (.row s) else tag k, .inr ⟨g, cap, cur, rfl, hh, hle, by omega, hmx, by rw [Nat.mul_one] at htk; exact htk, by simp⟩, hg.os, hg.tape, hg.output, hg.size, fun k hk _ => hg.block k hk (by simp), fun k hk => ?_, fun k hk => ?_⟩
    · show (if k = g then _ else _) = _
      rw [if_neg (by omega)]
    · show (if k = g then _ else _) = _
      rw [if_neg (by omega)]
      exact hfr k (Nat.le_trans hg.size hk)
theorem run_append_none_any {P : Program} {w : World} (t ty e : TypeId) (i : TypeInfo) (ht : P.underlying t = some (.slice e)) (hi : P.info? e = some i) (ad : Addr) (n cap : Nat) (h : n ≤ cap) :
    (Builtin.append_ #[t, t] ty #[.slice (some ad) n cap, .slice none 0 0]).run P w = .ok (.slice (some ad) n cap) w := by
  simp [Builtin.append_, run_underlying ht, sizeOf, typeInfo, hi, Builtin.lenOf, Builtin.firstCells, h, storeCells]
/-- Bytes are put behind. -/
theorem frow_append {w : World} {tag : Tags} {s : List UInt8} {v : Value} {xs : List Int} {ops : Array Oper} {rest : List Oper} {o : Oper} {a : Act} {Q : Exit → Act → World → Prop} (hgd : o.guard = none) (sx x : Operand)
    (ho : o.op = .call { callee := .builtin .append, args := #[sx, x], argTypes := #[26, 26] }) (hs : a.eval sx = v) (A : Option Addr) (m c : Nat) (news : List Int) (hx : a.eval x = .slice A m c) (hA : A = none → m = 0 ∧ c = 0) (hm : news.length = m)
    (hc : ∀ ad, A = some ad → ∀ j u, news[j]? = some u → w.cell? (ad.add j) = some (.int .u8 u)) (hR : FRow w tag s v xs) (hfr : ∀ k, w.heap.size ≤ k → tag k = none) (hl : xs.length + m ≤ 140737488355328)
    (h : ∀ v' w' tag', FRow w' tag' s v' (xs ++ news) → RTurn w w' tag tag' s → wpList Try.prog ops Q rest (a.put o.dst v') w') : wpList Try.prog ops Q (o :: rest) a w := by
  obtain ⟨i0, hi, hzz⟩ := Option.map_eq_some_iff.1 info5
  simp only [Prod.mk.injEq] at hzz
  obtain ⟨hz0, hz1, hz2⟩ := hzz
  have hone : ∀ u ∈ news.map (Value.int .u8), u.oneCell' = true := by intro u hu; obtain ⟨z, _, rfl⟩ := List.mem_map.1 hu; rfl
  have hmx : xs.length + m ≤ maxLen := by unfold maxLen; omega
  have hrefl : RTurn w w tag tag s := ⟨rfl, rfl, rfl, Nat.le_refl _, fun _ _ _ => rfl, fun _ _ => rfl, hfr⟩
  cases A with
  | none =>
    obtain ⟨rfl, rfl⟩ := hA rfl
    have hn0 : news = [] := List.eq_nil_of_length_eq_zero hm
    subst hn0
    have hfin := h v w tag (by rw [List.append_nil]; exact hR) hrefl
    rcases hR with ⟨rfl, rfl⟩ | ⟨R, cap, cur, rfl, h2, h3, h4, h5, h6, h7⟩
    · exact wpList_append_own_none hgd sx x 26 ho 0 5 i0 1 Try.underlying26 hi _ 0 [] hs (World.ownsRow_nil w 0 5 1) hx hfin
    · refine wpList_plain hgd fun K hK => ?_
      have hrun := run_append_none_any (P := Try.prog) (w := w) 26 o.type 5 i0 Try.underlying26 hi ⟨R, 0, none⟩ xs.length cap h3
      unfold Oper.wp
      simp [execOp, ho, resolve, invoke, builtin, hs, hx, hrun, Result.andThen]
      exact hK _ _ hfin
  | some ad =>
    have hnews : ∀ j u, (news.map (Value.int .u8))[j]? = some u → w.cell? (ad.add j) = some u := by
      intro j u hj
      rw [List.getElem?_map] at hj
      obtain ⟨y, hy, rfl⟩ := Option.map_eq_some_iff.1 hj
      exact hc ad rfl j y hy
    rcases hR with ⟨rfl, rfl⟩ | ⟨R, cap, cur, rfl, h2, h3, h4, h5, h6, h7⟩
    · refine wpList_append_own w hgd sx x 26 ho w.heap.size 5 i0 (.int .u8 0) 1 1 Try.underlying26 hi hz0 hz1 hz2 rfl (by decide) _ 0 [] hs (World.ownsRow_nil w _ 5 1) ad m c (news.map (Value.int .u8)) hx (by simp [hm]) hnews hone (by unfold maxLen; simp at hl; omega) (by simp at hl; omega) (Nat.le_refl _) ?_
      intro v' w' how hgr _
      obtain ⟨tag', t1, t2⟩ := RTurn.made (s := s) (zs := news) (n := 0 + m) (by omega) hfr (by simpa using how) hgr
      exact h v' w' tag' (by simpa using t1) t2
    · refine wpList_append_arg w hgd sx x 26 ho 5 i0 (.int .u8 0) 1 1 Try.underlying26 hi hz0 hz1 hz2 rfl (by decide) R 0 xs.length cap (xs.map (Value.int .u8)) hs (by simp) ?_ ad m c (news.map (Value.int .u8)) hx (by simp [hm]) hnews hone ?_ hmx (by omega) ?_ ?_
      · intro j u hj
        rw [List.getElem?_map] at hj
        obtain ⟨y, hy, rfl⟩ := Option.map_eq_some_iff.1 hj
        rw [Nat.zero_add]
        exact pre_cell h2 h6 hy
      · intro hroom j hj
        rw [List.length_map] at hj
        refine ⟨?_, blk_frozen h2 _⟩
        rw [blk_cell h2]
        simp
        omega
      · intro hroom
        obtain ⟨s1, s2, s3, s4⟩ := setCells_same R (news.map (Value.int .u8)) (0 + xs.length * 1) w
        obtain ⟨cur', c1, c2, c3⟩ := setCells_row (news.map (Value.int .u8)) (0 + xs.length * 1) w cur h2 (by simp; omega)
        refine h _ _ tag (.inr ⟨R, cap, cur', by rw [List.length_append, hm], c1, by rw [List.length_append]; omega, by rw [c2]; exact h4, h5, ?_, h7⟩) ⟨s1, s2, s3, by rw [s4]; exact Nat.le_refl _, fun k hk hne => ssc_other R _ _ w k (fun e => hne (by rw [e, h7])), fun _ _ => rfl, fun k hk => hfr k (by rw [s4] at hk; exact hk)⟩
        rw [c3, List.map_append, ← h6, List.length_append]
        have e4 : (cur.toList.take (0 + xs.length * 1)).length = xs.length := by simp; omega
        rw [Nat.zero_add, Nat.mul_one, List.append_assoc, List.take_append]
        simp
        rw [List.take_of_length_le (by simp; omega)]
        have e5 : xs.length + news.length - min xs.length cur.size = news.length := by omega
        rw [e5]
        simp
      · intro hgrow v' w' how hgr
        obtain ⟨tag', t1, t2⟩ := RTurn.made (s := s) (zs := xs ++ news) (n := xs.length + m) (by rw [List.length_append]; omega) hfr (by rw [List.map_append]; exact how) hgr
        exact h v' w' tag' t1 t2
end Go.Proofs.Ytcblcffkppiclaa.Dk
namespace Go.Proofs.Ytcblcffkppiclaa.Dk
open Go.RowKit Go.Maps Go.Proofs.Ytcblcffkppiclaa.DkMap Go.Proofs.YtcblcffkppiclaaW.PrintWords Go.Proofs.YtcblcffkppiclaaW.PrintLast Go.Proofs.YtcblcffkppiclaaW.PrintMore
set_option linter.unusedVariables false
set_option linter.unusedSimpArgs false
theorem put_put (l : Fl) (s : List UInt8) (a b : Fi) : put (put l s a) s b = put l s b := by
  induction l with
  | nil => simp [put]
  | cons x r ih =>
    obtain ⟨k, y⟩ := x
    by_cases h : k = s
    · subst h; simp [put]
    · have e1 : ∀ (r : Fl) (z : Fi), put ((k, y) :: r) s z = (k, y) :: put r s z := fun r z => by rw [put, if_neg h]
      rw [e1, e1, e1, ih]
theorem put_same {l : Fl} {s : List UInt8} {a : Fi} (h : get l s = some a) : put l s a = l := by
  induction l with
  | nil => simp [get] at h
  | cons x r ih =>
    obtain ⟨k, y⟩ := x
    unfold get at h
    unfold put
    by_cases e : k = s
    · rw [if_pos e] at h; cases h; rw [if_pos e, e]
    · rw [if_neg e] at h; rw [if_neg e, ih h]
section
variable {w w3 : World} {tag tag' : Tags} {p M : Nat} {D : DataW Unit} {F : List UInt8 → Option Nat} {u : Int} {st : St} {s : List UInt8} {x : Fi} {k : Nat}
theorem Dk.ltag (h : Dk w tag p M D F u st) {j : Nat} {t : Tag} (ht : tag j = some t) : j < w.heap.size := by
  rcases Nat.lt_or_ge j w.heap.size with h1 | h1
  · exact h1
  · rw [h.fresh j h1] at ht; cases ht
/-- A file's bytes are others: its row has turned, and its block's cells are written. -/
theorem Dk.wrote (h : Dk w tag p M D F u st) (hg : get st.fl s = some x) (hF : F s = some k) (hk : tag k = some (.file s)) {v' : Value} {y : Fi} (hT : RTurn w w3 tag tag' s) (hR : FRow w3 tag' s v' y.b) {w4 : World}
    (hb : w4.heap[k]? = some (.cells #[v', .int .i64 y.sure] 57 (0, 0))) (ho : w4.os = w3.os) (htp : w4.tape = w3.tape) (hou : w4.output = w3.output) (hs : w4.heap.size = w3.heap.size) (hsame : ∀ j, j ≠ k → w4.heap[j]? = w3.heap[j]?) :
    Dk w4 tag' p M D F u { st with fl := put st.fl s y } ∧ Turn w w4 tag tag' := by
  have hlen : (put st.fl s y).length = st.fl.length := by rw [len_put, hg]; rfl
  have hkl := h.ltag hk
  have hk' : tag' k = some (.file s) := (hT.same k hkl).trans hk
  have hM : w4.heap[M]? = w.heap[M]? := (hsame M (fun e => by have := h.tm; rw [e, hk] at this; cases this)).trans (hT.block M h.ltM (by rw [h.tm]; intro e; cases e))
  refine ⟨h.setFile (fun t ht => by rw [get_put, if_neg ht]) (by rw [get_put, if_pos rfl]) (by rw [hlen]; exact h.mp.kept hM) (by rw [hlen]; exact h.size) (fun _ _ => rfl) hF ⟨v', hb, hk', hR.same (fun j hj => hsame j (fun e => by rw [e, hk'] at hj; cases hj)) (fun _ h => h)⟩ (by rw [hs]; exact hT.size) (fun j t hj h1 h2 h3 => (hsame j (fun e => by rw [e, hk] at hj; cases hj; exact h2 rfl)).trans (hT.block j (h.ltag hj) (fun e => by rw [hj] at e; cases e; exact h1 rfl))) (fun j t hj h1 h2 => (hT.same j (h.ltag hj)).trans hj) (fun j hj => hT.fresh j (by rw [hs] at hj; exact hj)), ?_⟩
  exact ⟨ho.trans hT.os, htp.trans hT.tape, hou.trans hT.output, by rw [hs]; exact hT.size, fun j hj ht => (hsame j (fun e => by rw [e, hk] at ht; cases ht)).trans (hT.block j hj (by rw [ht]; intro e; cases e)), fun j hj ht => (hT.same j hj).trans ht⟩
theorem RTurn.refl (h : Dk w tag p M D F u st) (s : List UInt8) : RTurn w w tag tag s := ⟨rfl, rfl, rfl, Nat.le_refl _, fun _ _ _ => rfl, fun _ _ => rfl, h.fresh⟩
/-- A file is added. -/
theorem Dk.added (h : Dk w tag p M D F u st) (hg : get st.fl s = none) {w4 : World} (hown : w4.ownsMap Try.prog 9 ptrElem M (st.fl.length + 1) (D.put (.string s) (.lit (.int .u64 (w.heap.size : Int)))))
    (hgr : (w.alloc (.cells #[.slice none 0 0, .int .i64 0] 57)).grownBy w4 (some M)) :
    ∃ tag1, tag1 w.heap.size = some (.file s) ∧ Dk w4 tag1 p M (D.put (.string s) (.lit (.int .u64 (w.heap.size : Int)))) (upd F s (some w.heap.size)) u { st with fl := put st.fl s ⟨[], 0⟩ } ∧ Turn w w4 tag tag1 := by
  have hlen : (put st.fl s ⟨[], 0⟩).length = st.fl.length + 1 := by rw [len_put, hg]; rfl
  have hMl := h.ltM
  have hB := below_alloc (Below.refl w.heap.size w) (.cells #[.slice none 0 0, .int .i64 0] 57)
  have hsz : (w.alloc (.cells #[.slice none 0 0, .int .i64 0] 57)).heap.size = w.heap.size + 1 := by simp
  have hnew := heap_alloc_new w (.cells #[.slice none 0 0, .int .i64 0] 57)
  have hs4 := hgr.size
  rw [hsz] at hs4
  have hold : ∀ j, j < w.heap.size → j ≠ M → w4.heap[j]? = w.heap[j]? := fun j hj hne => (hgr.block j (by rw [hsz]; omega) (by simpa using hne)).trans (hB.block j hj)
  have ht1 : ∀ j, j ≠ w.heap.size → (if j = w.heap.size then some (Tag.file s) else tag j) = tag j := fun j hj => if_neg hj
  have hfs : Maps.has D (.string s) = false := by rw [h.mp.has, h.away s hg]; rfl
  refine ⟨fun j => if j = w.heap.size then some (.file s) else tag j, if_pos rfl, ?_, ?_⟩
  · refine h.setFile (k := w.heap.size) (fun t ht => by rw [get_put, if_neg ht]) (by rw [get_put, if_pos rfl]) (by rw [hlen]; exact h.mp.put hown) ?_ (fun t ht => if_neg ht) (if_pos rfl) ⟨.slice none 0 0, ?_, if_pos rfl, .inl ⟨rfl, rfl⟩⟩ (by omega) (fun j t hj h1 h2 h3 => hold j (h.ltag hj) (fun e => by rw [e, h.tm] at hj; cases hj; exact h3 rfl)) (fun j t hj h1 h2 => by have := h.ltag hj; exact (ht1 j (by omega)).trans hj) (fun j hj => ?_)
    · rw [hlen, size_put (h.mp.own.tidy K9), hfs, h.size]; rfl
    · exact (hgr.block w.heap.size (by rw [hsz]; omega) (by simp; omega)).trans hnew
    · have hj2 : w.heap.size + 1 ≤ j := by omega
      exact (ht1 j (by omega)).trans (h.fresh j (by omega))
  · exact ⟨hgr.os.trans hB.os, hgr.tape.trans hB.tape, hgr.output.trans hB.output, by omega, fun j hj ht => hold j hj (fun e => by rw [e, h.tm] at ht; cases ht), fun j hj ht => (ht1 j (by omega)).trans ht⟩
/-- A file is taken away. -/
theorem Dk.dropped (h : Dk w tag p M D F u st) (hok : (keys st.fl).Nodup) {w4 : World} {n' : Nat} (hown : w4.ownsMap Try.prog 9 ptrElem M n' (D.del (.string s))) (hgr : w.grownBy w4 (some M)) :
    Dk w4 tag p M (D.del (.string s)) (upd F s none) u { st with fl := del st.fl s } ∧ Turn w w4 tag tag := by
  have hsz : Maps.size (D.del (.string s)) = (del st.fl s).length := by
    have h1 := size_del (h.mp.own.tidy K9) (k := .string s)
    rw [h.size, h.mp.has] at h1
    rw [len_del]
    cases hg : get st.fl s with
    | none => rw [h.away s hg] at h1; simpa using h1
    | some x =>
      obtain ⟨k, hk, _⟩ := h.file s x hg
      rw [hk] at h1
      simp at h1
      simp
      omega
  have hown2 : w4.ownsMap Try.prog 9 ptrElem M (del st.fl s).length (D.del (.string s)) := by
    obtain ⟨es, clock, hb, Ft, hs, hD⟩ := hown
    refine ⟨es, clock, hb, Ft, ?_, hD⟩
    have : Maps.size (D.del (.string s)) = es.size := by rw [hD, size_eq, length_read]
    omega
  refine ⟨h.delFile (fun t ht => by rw [get_del hok, if_neg ht]) (by rw [get_del hok, if_pos rfl]) (h.mp.del hown2) hsz (fun t ht => if_neg ht) (if_pos rfl) hgr.size (fun j t hj h1 => hgr.block j (h.ltag hj) (fun e => by injection e with e; rw [e, h.tm] at hj; cases hj; exact h1 rfl)), ?_⟩
  exact ⟨hgr.os, hgr.tape, hgr.output, hgr.size, fun j hj ht => hgr.block j hj (fun e => by injection e with e; rw [e, h.tm] at ht; cases ht), fun _ _ h => h⟩
end
end Go.Proofs.Ytcblcffkppiclaa.Dk
namespace Go.Proofs.Ytcblcffkppiclaa.Dk
open Go.RowKit Go.Maps Go.Proofs.Ytcblcffkppiclaa.DkMap Go.Proofs.YtcblcffkppiclaaW.PrintWords Go.Proofs.YtcblcffkppiclaaW.PrintLast Go.Proofs.YtcblcffkppiclaaW.PrintMore
attribute [local go_sem] max2_int min2_int max_two min_two max_three min_three max_four min_four
set_option linter.unusedVariables false
set_option linter.unusedSimpArgs false
/-- An argument's bytes in memory: in a block that is not the disk's. -/
structure Arg (w : World) (tag : Tags) (A : Option Addr) (c : Nat) (b : List Int) : Prop where
  nil : A = none → b.length = 0 ∧ c = 0
  cell : ∀ ad, A = some ad → ∀ j u, b[j]? = some u → w.cell? (ad.add j) = some (.int .u8 u)
  out : ∀ ad, A = some ad → 0 < b.length → ad.block < w.heap.size ∧ tag ad.block = none
theorem Arg.turn {w w' : World} {tag tag' : Tags} {A : Option Addr} {c : Nat} {b : List Int} (h : Arg w tag A c b) (hT : Turn w w' tag tag') : Arg w' tag' A c b :=
  ⟨h.nil, fun ad hA j u hj => by
    obtain ⟨h1, h2⟩ := h.out ad hA (Nat.lt_of_le_of_lt (Nat.zero_le j) (List.getElem?_eq_some_iff.1 hj).1)
    have hbk : (ad.add j).block = ad.block := by unfold Addr.add; split <;> rfl
    rw [World.cell?_of_block (a := ad.add j) (w := w) (by rw [hbk]; exact hT.block ad.block h1 h2)]
    exact h.cell ad hA j u hj, fun ad hA hp => by
    obtain ⟨h1, h2⟩ := h.out ad hA hp
    exact ⟨Nat.lt_of_lt_of_le h1 hT.size, hT.tags _ h1 h2⟩⟩
theorem FRow.slice {w : World} {tag : Tags} {s : List UInt8} {v : Value} {xs : List Int} (h : FRow w tag s v xs) : ∃ A n c, v = .slice A n c := by
  rcases h with ⟨rfl, _⟩ | ⟨R, cap, cur, rfl, _⟩
  · exact ⟨_, _, _, rfl⟩
  · exact ⟨_, _, _, rfl⟩
section
variable (w : World) (tag : Tags) (p M : Nat) (D : DataW Unit) (F : List UInt8 → Option Nat) (st : St)
set_option maxHeartbeats 8000000 in
theorem put_old (h : Dk w tag p M D F (used st.fl) st) (hok : st.Ok) (s : ByteArray) (hs : s.size ≤ maxLen) (hn : isName s.data.toList = true) (x : Fi) (hx : get st.fl s.data.toList = some x) (A : Option Addr) (b : List Int) (c : Nat) (hA : Arg w tag A c b) (hb0 : b.length ≤ 1099511627776) (hfull : ¬ st.room < used st.fl + b.length) :
    Calls Try.prog 24 #[.pointer (some ⟨p, 0, none⟩), .string s, .slice A b.length c] w fun e w' => ∃ tag', e = .returned (.int .i64 0) ∧ (∃ u, u = (used st.fl : Int) + b.length ∧ Dk w' tag' p M D F u { st with fl := put st.fl s.data.toList ⟨x.b ++ b, x.sure⟩ }) ∧ Turn w w' tag tag' := by
  have hs2 : s.size ≤ 9223372036854775807 := by unfold maxLen at hs; omega
  obtain ⟨c0, c1, c2, c3, c4⟩ := Dk.cells h
  have hfits := hok.fits
  have hroom := hok.room
  have hux := get_used hx
  have hw : IntKind.i64.wrap ((st.room : Int) - (used st.fl : Int)) = (st.room : Int) - used st.fl := (IntKind.wrap_i64 _).trans (by omega)
  have hgt : ¬ (st.room : Int) - used st.fl < (b.length : Int) := by omega
  obtain ⟨k, hk, hfb⟩ := h.file _ _ hx
  have hlk : (Instr.lookup 50 (.map (some M)) (.string s) false).run Try.prog w = .ok (.pointer (some ⟨k, 0, none⟩)) w := Dk.look h s hs (some k) hk
  have H := Aside0.mk h
  have HA := Aside0.mk hA
  have HX := Aside0.mk hx
  have HF := Aside0.mk hfb
  have HK := Aside0.mk hk
  clear h hok hA hx hfb hk hfull
  go_enter Try.func24, Try.ntmps24
  go_wp2_with (go_at_call 35; (with_reducible refine (isName_ok _ s hs2).mono ?_); rintro e w2 ⟨he, hb⟩; rw [hn] at he; subst he; have h2 := IsDk.below H.out hb; obtain ⟨d0, d1, d2, d3, d4⟩ := Dk.cells h2)
  go_region
  have hB := below_drew1 hb
  have h3 := IsDk.below H.out hB
  have hA3 := HA.out.turn (Turn.below hB)
  have hT3 := Turn.below (tag := tag) hB
  obtain ⟨v, e1, e2, e3⟩ := HF.out.same (w' := w2.drew) (tag' := tag) (fun j hj => hB.block j (by rcases hj with hj | hj <;> exact Dk.ltag H.out hj)) (fun _ _ _ h => h)
  obtain ⟨A0, n0, c0, rfl⟩ := e3.slice
  have hv0 : w2.drew.cell? ⟨k, 0, none⟩ = some (.slice A0 n0 c0) := (blk_cell e1 0).trans rfl
  have hfz := blk_frozen e1 0
  generalize w2.drew = w3 at h3 hA3 hT3 e1 e3 hv0 hfz ⊢
  clear hb hB d0 d1 d2 d3 d4 h2
  obtain ⟨d0, d1, d2, d3, d4⟩ := Dk.cells h3
  go_wp2_with (at_builtin; refine frow_append rfl (.tmp 57) (.tmp 58) rfl rfl A b.length c b rfl (fun h => ⟨(hA3.nil h).1, (hA3.nil h).2⟩) rfl hA3.cell e3 h3.fresh (by omega) ?_)
  intro v' w5 tag' hR hTr
  obtain ⟨A', n', c', rfl⟩ := hR.slice
  have e5 := (hTr.block k (blk_lt e1) (by rw [e2]; intro e; cases e)).trans e1
  have p5 := (hTr.block p h3.lt (by rw [h3.tp]; intro e; cases e)).trans h3.head
  have hkp : p ≠ k := by intro e; have := h3.tp; rw [e, e2] at this; cases this
  have f0 : w5.cell? ⟨k, 0, none⟩ = some (.slice A0 n0 c0) := (blk_cell e5 0).trans rfl
  have f1 := blk_frozen e5 0
  have p6 := blk_far p5 (p := ⟨k, 0, none⟩) hkp (.slice A' n' c')
  have q0 : (w5.setCell ⟨k, 0, none⟩ (.slice A' n' c')).cell? ⟨p, 1, none⟩ = some (.int .i64 (used st.fl)) := (blk_cell p6 1).trans rfl
  have q1 := blk_frozen p6 1
  have k6 := blk_set e5 0 (.slice A' n' c')
  have hW := fun (w4 : World) hb ho htp hou hs hsame => Dk.wrote (y := ⟨x.b ++ b, x.sure⟩) h3 HX.out HK.out e2 (w4 := w4) hTr hR hb ho htp hou hs hsame
  have hcs := setCells_same k [.slice A' n' c'] 0 w5
  have hW2 := Aside0.mk (hW (w5.setCell ⟨k, 0, none⟩ (.slice A' n' c')) (by rw [k6]; simp) hcs.1 hcs.2.1 hcs.2.2.1 hcs.2.2.2 (fun j hj => Below.heap_setCell w5 ⟨k, 0, none⟩ _ j hj))
  have HE := Aside0.mk hT3
  clear hW hR hTr h3 hA3 hT3 H HA HX HF HK e3 e1 e5 p5 k6 hcs hv0 hfz d0 d1 d2 d3 d4 p6
  go_wp2
  go_ret
  obtain ⟨g1, g2⟩ := hW2.out
  exact ⟨tag', rfl, ⟨_, rfl, Dk.setUsed g1 _⟩, HE.out.trans (g2.trans (Turn.head g1 _ _))⟩
set_option maxHeartbeats 8000000 in
theorem put_new (h : Dk w tag p M D F (used st.fl) st) (hok : st.Ok) (s : ByteArray) (hs : s.size ≤ maxLen) (hn : isName s.data.toList = true) (hx : get st.fl s.data.toList = none) (hl : st.fl.length ≠ 65536) (A : Option Addr) (b : List Int) (c : Nat) (hA : Arg w tag A c b) (hb0 : b.length ≤ 1099511627776) (hfull : ¬ st.room < used st.fl + b.length) :
    Calls Try.prog 24 #[.pointer (some ⟨p, 0, none⟩), .string s, .slice A b.length c] w fun e w' => ∃ tag' D' F', e = .returned (.int .i64 0) ∧ (∃ u, u = (used st.fl : Int) + b.length ∧ Dk w' tag' p M D' F' u { st with fl := put st.fl s.data.toList ⟨b, 0⟩ }) ∧ Turn w w' tag tag' := by
  have hs2 : s.size ≤ 9223372036854775807 := by unfold maxLen at hs; omega
  obtain ⟨c0, c1, c2, c3, c4⟩ := Dk.cells h
  have hfits := hok.fits
  have hroom := hok.room
  have hfew := hok.few
  have hl0 : (((st.fl.length : Nat) : Int) == 65536) = false := by rw [beq_eq_false_iff_ne]; omega
  have hw : IntKind.i64.wrap ((st.room : Int) - (used st.fl : Int)) = (st.room : Int) - used st.fl := (IntKind.wrap_i64 _).trans (by omega)
  have hgt : ¬ (st.room : Int) - used st.fl < (b.length : Int) := by omega
  have hlk : (Instr.lookup 50 (.map (some M)) (.string s) false).run Try.prog w = .ok (.pointer none) w := Dk.look h s hs none (h.away _ hx)
  have hkey := Go.WideMaps.keyOf_string_mk (P := Try.prog) Try.underlying9 hs
  have H := Aside0.mk h
  have HA := Aside0.mk hA
  have HX := Aside0.mk hx
  have HKEY := Aside0.mk hkey
  clear h hok hA hx hfull hkey
  go_enter Try.func24, Try.ntmps24
  go_wp2_with (go_at_call 35; (with_reducible refine (isName_ok _ s hs2).mono ?_); rintro e w2 ⟨he, hb⟩; rw [hn] at he; subst he; have h2 := IsDk.below H.out hb; obtain ⟨d0, d1, d2, d3, d4⟩ := Dk.cells h2; have hlen := Dk.lens h2)
  go_region
  have hB := below_drew1 hb
  have h3 := IsDk.below H.out hB
  have hA3 := HA.out.turn (Turn.below hB)
  have hT3 := Turn.below (tag := tag) hB
  generalize w2.drew = w3 at h3 hA3 hT3 ⊢
  clear hb hB d0 d1 d2 d3 d4 h2 hlen
  have hB4 := below_alloc (Below.refl w3.heap.size w3) (.cells #[.slice none 0 0, .int .i64 0] 57)
  have h4 := IsDk.below h3 hB4
  obtain ⟨d0, d1, d2, d3, d4⟩ := Dk.cells h4
  have H3 := Aside0.mk h3
  have H4 := Aside0.mk h4
  have HA3 := Aside0.mk hA3
  have HT3 := Aside0.mk hT3
  clear h3 h4 hA3 hT3 hB4
  go_wp2_with (at_mapUpdate; refine wpList_mapUpdate_own _ rfl (.tmp 50) (.tmp 51) (.tmp 52) 50 rfl 9 55 K9 Try.underlying50 ptrElem M st.fl.length D rfl H4.out.mp.own (by unfold maxLen; omega) (.string s) (.pointer (some ⟨w3.heap.size, 0, none⟩)) (.string s.data.toList) rfl rfl HKEY.out (.lit (.int .u64 (w3.heap.size : Int))) [] rfl ?_)
  intro wm hown hgr
  obtain ⟨tag1, e2, h3, hT5⟩ := Dk.added H3.out HX.out hown hgr
  have hA3 := HA3.out.turn hT5
  have hT3 := HT3.out.trans hT5
  obtain ⟨k', hk', hfb⟩ := h3.file s.data.toList ⟨[], 0⟩ (by show get (put st.fl _ _) _ = _; rw [get_put, if_pos rfl])
  have hkk : k' = w3.heap.size := by have := hk'; unfold upd at this; rw [if_pos rfl] at this; injection this with this; exact this.symm
  subst hkk
  clear hown hgr H3 H4 HA3 HT3 hT5 HKEY hlk d0 d1 d2 d3 d4
  generalize w3.heap.size = k at *
  obtain ⟨v, e1, _, e3⟩ := hfb
  obtain ⟨A0, n0, c0, rfl⟩ := e3.slice
  have hv0 : wm.cell? ⟨k, 0, none⟩ = some (.slice A0 n0 c0) := (blk_cell e1 0).trans rfl
  have hfz := blk_frozen e1 0
  obtain ⟨d0, d1, d2, d3, d4⟩ := Dk.cells h3
  go_wp2_with (at_builtin; refine frow_append rfl (.tmp 57) (.tmp 58) rfl rfl A b.length c b rfl (fun h => ⟨(hA3.nil h).1, (hA3.nil h).2⟩) rfl hA3.cell e3 h3.fresh (by simp; omega) ?_)
  intro v' w5 tag' hR hTr
  obtain ⟨A', n', c', rfl⟩ := hR.slice
  have e5 := (hTr.block k (blk_lt e1) (by rw [e2]; intro e; cases e)).trans e1
  have p5 := (hTr.block p h3.lt (by rw [h3.tp]; intro e; cases e)).trans h3.head
  have hkp : p ≠ k := by intro e; have := h3.tp; rw [e, e2] at this; cases this
  have f0 : w5.cell? ⟨k, 0, none⟩ = some (.slice A0 n0 c0) := (blk_cell e5 0).trans rfl
  have f1 := blk_frozen e5 0
  have p6 := blk_far p5 (p := ⟨k, 0, none⟩) hkp (.slice A' n' c')
  have q0 : (w5.setCell ⟨k, 0, none⟩ (.slice A' n' c')).cell? ⟨p, 1, none⟩ = some (.int .i64 (used st.fl)) := (blk_cell p6 1).trans rfl
  have q1 := blk_frozen p6 1
  have k6 := blk_set e5 0 (.slice A' n' c')
  have hW := fun (w4 : World) hb ho htp hou hs hsame => Dk.wrote (x := ⟨[], 0⟩) (y := ⟨[] ++ b, 0⟩) h3 (by show get (put st.fl _ _) _ = _; rw [get_put, if_pos rfl]) hk' e2 (w4 := w4) hTr hR hb ho htp hou hs hsame
  have hcs := setCells_same k [.slice A' n' c'] 0 w5
  have hW2 := Aside0.mk (hW (w5.setCell ⟨k, 0, none⟩ (.slice A' n' c')) (by rw [k6]; simp) hcs.1 hcs.2.1 hcs.2.2.1 hcs.2.2.2 (fun j hj => Below.heap_setCell w5 ⟨k, 0, none⟩ _ j hj))
  have HE := Aside0.mk hT3
  clear hW hR hTr h3 hA3 hT3 H HA HX e3 e1 e5 p5 k6 hcs hv0 hfz d0 d1 d2 d3 d4 p6 hk'
  go_wp2
  go_ret
  obtain ⟨g1, g2⟩ := hW2.out
  rw [put_put] at g1
  exact ⟨rfl, tag', ⟨_, _, Dk.setUsed g1 _⟩, HE.out.trans (g2.trans (Turn.head g1 _ _))⟩
end
/-- put, whole. -/
theorem put_ok (w : World) (tag : Tags) (p : Nat) (st : St) (h : Dsk Try.prog w tag p st) (s : ByteArray) (hs : s.size ≤ maxLen) (A : Option Addr) (b : List Int) (c : Nat) (hA : Arg w tag A c b) (hb0 : b.length ≤ 1099511627776) :
    Calls Try.prog 24 #[.pointer (some ⟨p, 0, none⟩), .string s, .slice A b.length c] w fun e w' => ∃ tag', e = .returned (.int .i64 (putb st s.data.toList b).1) ∧ Dsk Try.prog w' tag' p (putb st s.data.toList b).2 ∧ Turn w w' tag tag' := by
  obtain ⟨hok, M, D, F, h⟩ := h
  have hOk := Ok_putb hok s.data.toList b
  unfold putb at hOk ⊢
  by_cases hn : isName s.data.toList = false
  · rw [if_pos hn]
    refine (put_bad w tag p M D F st h s hs hn _).mono ?_
    rintro e w' ⟨rfl, hb⟩
    exact ⟨tag, rfl, ⟨hok, M, D, F, IsDk.below h hb⟩, Turn.below hb⟩
  · rw [if_neg hn] at hOk ⊢
    have hn : isName s.data.toList = true := by simpa using hn
    by_cases hm : (get st.fl s.data.toList).isNone = true ∧ st.fl.length = 65536
    · rw [if_pos hm]
      refine (put_many w tag p M D F st h s hs hn (by simpa using hm.1) hm.2 _).mono ?_
      rintro e w' ⟨rfl, hb⟩
      exact ⟨tag, rfl, ⟨hok, M, D, F, IsDk.below h hb⟩, Turn.below hb⟩
    · rw [if_neg hm] at hOk ⊢
      by_cases hf : st.room < used st.fl + b.length
      · rw [if_pos hf]
        refine (put_full w tag p M D F st h hok s hs hn _ rfl (fun hx hl => hm ⟨?_, hl⟩) A b.length c (by omega) hf).mono ?_
        · cases hg : get st.fl s.data.toList with
          | none => rfl
          | some x => obtain ⟨k, hk, _⟩ := h.file _ _ hg; rw [hk] at hx; cases hx
        · rintro e w' ⟨rfl, hb⟩
          exact ⟨tag, rfl, ⟨hok, M, D, F, IsDk.below h hb⟩, Turn.below hb⟩
      · rw [if_neg hf] at hOk ⊢
        cases hg : get st.fl s.data.toList with
        | none =>
          rw [hg] at hOk hm
          refine (put_new w tag p M D F st h hok s hs hn hg (fun e => hm ⟨rfl, e⟩) A b c hA hb0 hf).mono ?_
          rintro e w' ⟨tag', D', F', rfl, ⟨u, rfl, hD⟩, hT⟩
          have hu := used_put st.fl s.data.toList ⟨b, 0⟩
          rw [hg] at hu
          simp at hu
          refine ⟨tag', rfl, ⟨hOk, M, D', F', ?_⟩, hT⟩
          show IsDk Try.prog w' tag' p M D' F' ((used (put st.fl s.data.toList ⟨b, 0⟩) : Nat) : Int) { st with fl := put st.fl s.data.toList ⟨b, 0⟩ }
          rw [hu]
          simpa using hD
        | some x =>
          rw [hg] at hOk
          refine (put_old w tag p M D F st h hok s hs hn x hg A b c hA hb0 hf).mono ?_
          rintro e w' ⟨tag', rfl, ⟨u, rfl, hD⟩, hT⟩
          have hu := used_put st.fl s.data.toList ⟨x.b ++ b, x.sure⟩
          rw [hg] at hu
          simp at hu
          refine ⟨tag', rfl, ⟨hOk, M, D, F, ?_⟩, hT⟩
          show IsDk Try.prog w' tag' p M D F ((used (put st.fl s.data.toList ⟨x.b ++ b, x.sure⟩) : Nat) : Int) { st with fl := put st.fl s.data.toList ⟨x.b ++ b, x.sure⟩ }
          rw [show used (put st.fl s.data.toList ⟨x.b ++ b, x.sure⟩) = used st.fl + b.length by omega]
          simpa using hD
end Go.Proofs.Ytcblcffkppiclaa.Dk
namespace Go.Proofs.Ytcblcffkppiclaa.Dk
open Go.RowKit Go.Maps Go.Proofs.Ytcblcffkppiclaa.DkMap Go.Proofs.YtcblcffkppiclaaW.PrintWords Go.Proofs.YtcblcffkppiclaaW.PrintLast Go.Proofs.YtcblcffkppiclaaW.PrintMore
attribute [local go_sem] max2_int min2_int max_two min_two max_three min_three max_four min_four
set_option linter.unusedVariables false
set_option linter.unusedSimpArgs false
section
variable {w w' : World} {tag tag' : Tags} {p : Nat} {st : St}
theorem Dsk.cells (h : Dsk Try.prog w tag p st) : w.cell? ⟨p, 4, none⟩ = some (.bool st.down) := by
  obtain ⟨_, M, D, F, h⟩ := h
  exact (Dk.cells h).2.2.2.2
theorem Dsk.below (h : Dsk Try.prog w tag p st) (hb : Below w.heap.size w w') : Dsk Try.prog w' tag p st := by
  obtain ⟨h1, M, D, F, h⟩ := h
  exact ⟨h1, M, D, F, IsDk.below h hb⟩
end
section
variable (w : World) (tag : Tags) (p : Nat) (st : St) (h : Dsk Try.prog w tag p st)
include h
theorem spent_dsk : Calls Try.prog 23 #[.pointer (some ⟨p, 0, none⟩)] w fun e w' => e = .returned (.bool (fails st)) ∧ Dsk Try.prog w' tag p (burn st) ∧ Turn w w' tag tag := by
  obtain ⟨hok, M, D, F, h⟩ := h
  refine (spent_ok w tag p M D F _ st h hok.fuse1).mono ?_
  rintro e w' ⟨rfl, h1, h2⟩
  exact ⟨rfl, ⟨Ok_burn hok, M, D, F, by rw [burn_fl]; exact h1⟩, h2⟩
theorem fail_dsk : Calls Try.prog 25 #[.pointer (some ⟨p, 0, none⟩)] w fun e w' => e = .returned (.int .i64 15) ∧ Dsk Try.prog w' tag p { st with down := true } ∧ Turn w w' tag tag := by
  obtain ⟨hok, M, D, F, h⟩ := h
  refine (fail_ok w tag p M D F _ st h).mono ?_
  rintro e w' ⟨rfl, h1, h2⟩
  exact ⟨rfl, ⟨Ok_down hok true, M, D, F, h1⟩, h2⟩
theorem Fuse_dsk (n : Int) (hn : n ≤ 9223372036854775807) : Calls Try.prog 11 #[.pointer (some ⟨p, 0, none⟩), .int .i64 n] w fun e w' => e = .returned (.tuple #[]) ∧ Dsk Try.prog w' tag p { st with fuse := max n (-1) } ∧ Turn w w' tag tag := by
  obtain ⟨hok, M, D, F, h⟩ := h
  refine (Fuse_ok w tag p M D F _ st h n).mono ?_
  rintro e w' ⟨rfl, h1, h2⟩
  exact ⟨rfl, ⟨⟨hok.apart, hok.sure, hok.fits, hok.room, by simp; omega, by simp; omega, hok.few⟩, M, D, F, h1⟩, h2⟩
set_option maxHeartbeats 4000000 in
theorem Append_ok (s : ByteArray) (hs : s.size ≤ maxLen) (A : Option Addr) (b : List Int) (c : Nat) (hA : Arg w tag A c b) (hb0 : b.length ≤ 1099511627776) :
    Calls Try.prog 9 #[.pointer (some ⟨p, 0, none⟩), .string s, .slice A b.length c] w fun e w' => ∃ tag', e = .returned (.int .i64 (append st s.data.toList b).1) ∧ Dsk Try.prog w' tag' p (append st s.data.toList b).2 ∧ Turn w w' tag tag' := by
  have c4 := Dsk.cells h
  have H := Aside0.mk h
  have HA := Aside0.mk hA
  clear h hA
  unfold append
  cases hd : st.down
  · rw [if_neg (by simp)]
    rw [hd] at c4
    cases hf : fails st
    · rw [if_neg (by simp)]
      go_enter Try.func9, Try.ntmps9
      go_wp2_with (first
        | (go_at_call 23; (with_reducible refine (spent_dsk _ _ _ _ H.out).mono ?_); rintro e w1 ⟨he, h1, t1⟩; rw [hf] at he; subst he; have hA1 := HA.out.turn t1; have H1 := Aside0.mk h1; have T1 := Aside0.mk t1; have HA1 := Aside0.mk hA1; clear hA1 h1 t1)
        | (go_at_call 24; (with_reducible refine (put_ok _ _ _ _ H1.out s hs A b c HA1.out hb0).mono ?_); rintro e w2 ⟨tag', rfl, h2, t2⟩; have H2 := Aside0.mk h2; have T2 := Aside0.mk t2; clear h2 t2))
      go_ret
      exact ⟨tag', rfl, H2.out, T1.out.trans T2.out⟩
    · rw [if_pos rfl]
      go_enter Try.func9, Try.ntmps9
      go_wp2_with (first
        | (go_at_call 23; (with_reducible refine (spent_dsk _ _ _ _ H.out).mono ?_); rintro e w1 ⟨he, h1, t1⟩; rw [hf] at he; subst he; have hA1 := HA.out.turn t1; have H1 := Aside0.mk h1; have T1 := Aside0.mk t1; have HA1 := Aside0.mk hA1; clear hA1 h1 t1)
        | (go_at_call 24; (with_reducible refine (put_ok _ _ _ _ H1.out s hs A b c HA1.out hb0).mono ?_); rintro e w2 ⟨tag', rfl, h2, t2⟩; have H2 := Aside0.mk h2; have T2 := Aside0.mk t2; clear h2 t2)
        | (go_at_call 25; (with_reducible refine (fail_dsk _ _ _ _ H2.out).mono ?_); rintro e w3 ⟨rfl, h3, t3⟩; have H3 := Aside0.mk h3; have T3 := Aside0.mk t3; clear h3 t3))
      go_ret
      exact ⟨tag', rfl, H3.out, T1.out.trans (T2.out.trans T3.out)⟩
  · rw [if_pos rfl]
    rw [hd] at c4
    go_enter Try.func9, Try.ntmps9
    go_wp2
    go_ret
    exact ⟨tag, rfl, H.out, Turn.refl _ _⟩
omit h in
set_option maxHeartbeats 4000000 in
theorem Append_nil (s b : Value) : Calls Try.prog 9 #[.pointer none, s, b] w fun e w' => e = .returned (.int .i64 1) ∧ w = w' := by
  go_enter Try.func9, Try.ntmps9
  go_wp2
  go_ret
  exact ⟨rfl, rfl⟩
end
end Go.Proofs.Ytcblcffkppiclaa.Dk
namespace Go.Proofs.Ytcblcffkppiclaa.Dk
open Go.RowKit Go.Maps Go.Proofs.Ytcblcffkppiclaa.DkMap Go.Proofs.YtcblcffkppiclaaW.PrintWords Go.Proofs.YtcblcffkppiclaaW.PrintLast Go.Proofs.YtcblcffkppiclaaW.PrintMore
attribute [local go_sem] max2_int min2_int max_two min_two max_three min_three max_four min_four
set_option linter.unusedVariables false
set_option linter.unusedSimpArgs false
section
variable (w : World) (tag : Tags) (p : Nat) (st : St) (h : Dsk Try.prog w tag p st)
include h
theorem find_dsk (s : ByteArray) (hs : s.size ≤ maxLen) (e : Int) (he : e = if isName s.data.toList = false then 1 else 8) (hx : isName s.data.toList = false ∨ get st.fl s.data.toList = none) :
    Calls Try.prog 31 #[.pointer (some ⟨p, 0, none⟩), .string s] w fun r w' => r = .returned (.tuple #[.pointer none, .int .i64 e]) ∧ Below w.heap.size w w' := by
  obtain ⟨hok, M, D, F, h⟩ := h
  by_cases hn : isName s.data.toList = false
  · rw [if_pos hn] at he
    subst he
    exact find_bad w p s hs hn
  · rw [if_neg hn] at he
    subst he
    exact find_none w h s hs (by simpa using hn) (hx.resolve_left hn)
set_option maxHeartbeats 4000000 in
theorem deed_stop (s : ByteArray) (hs : s.size ≤ maxLen) (d : Value) (K : St → Fi → Int × St) (hx : st.down = true ∨ fails st = true ∨ isName s.data.toList = false ∨ get st.fl s.data.toList = none) :
    Calls Try.prog 26 #[.pointer (some ⟨p, 0, none⟩), .string s, d] w fun e w' => e = .returned (.int .i64 (deed st s.data.toList K).1) ∧ Dsk Try.prog w' tag p (deed st s.data.toList K).2 ∧ Turn w w' tag tag := by
  have c4 := Dsk.cells h
  have H := Aside0.mk h
  clear h
  cases hd : st.down
  · rw [hd] at c4 hx
    cases hf : fails st
    · rw [hf] at hx
      have hx : isName s.data.toList = false ∨ get st.fl s.data.toList = none := by simpa using hx
      have hE : ∃ e, e = (if isName s.data.toList = false then (1 : Int) else 8) ∧ (e = 1 ∨ e = 8) := ⟨_, rfl, by split <;> simp⟩
      obtain ⟨e0, he0, he1⟩ := hE
      have hne : (e0 != 0) = true := by rcases he1 with rfl | rfl <;> rfl
      have hR : deed st s.data.toList K = (e0, burn st) := by
        unfold deed
        rw [if_neg (by rw [hd]; simp), if_neg (by rw [hf]; simp), he0]
        by_cases hn : isName s.data.toList = false
        · rw [if_pos hn, if_pos hn]
        · rw [if_neg hn, if_neg hn, hx.resolve_left hn]
      rw [hR]
      clear hR he1
      have HX := Aside0.mk hx
      have HE := Aside0.mk he0
      clear hx he0
      have hne2 : ¬ e0 = 0 := by simpa using hne
      go_enter Try.func26, Try.ntmps26
      go_wp2_with (first
        | (go_at_call 23; (with_reducible refine (spent_dsk _ _ _ _ H.out).mono ?_); rintro e w1 ⟨he, h1, t1⟩; rw [hf] at he; subst he; have H1 := Aside0.mk h1; have T1 := Aside0.mk t1; clear h1 t1)
        | (go_at_call 31; (with_reducible refine (find_dsk _ _ _ _ H1.out s hs e0 HE.out (by rw [burn_fl]; exact HX.out)).mono ?_); rintro e w2 ⟨rfl, hb⟩; have B2 := Aside0.mk hb; clear hb))
      go_ret
      exact ⟨rfl, Dsk.below H1.out B2.out, T1.out.trans (Turn.below B2.out)⟩
    · have hR : deed st s.data.toList K = (15, { st with down := true }) := by
        unfold deed
        rw [if_neg (by rw [hd]; simp), if_pos hf]
      rw [hR]
      clear hR
      go_enter Try.func26, Try.ntmps26
      go_wp2_with (first
        | (go_at_call 23; (with_reducible refine (spent_dsk _ _ _ _ H.out).mono ?_); rintro e w1 ⟨he, h1, t1⟩; rw [hf] at he; subst he; have H1 := Aside0.mk h1; have T1 := Aside0.mk t1; clear h1 t1)
        | (go_at_call 25; (with_reducible refine (fail_dsk _ _ _ _ H1.out).mono ?_); rintro e w3 ⟨rfl, h3, t3⟩; have H3 := Aside0.mk h3; have T3 := Aside0.mk t3; clear h3 t3))
      go_ret
      have e1 : burn st = st := by unfold burn; rw [if_neg]; unfold fails at hf; have := of_decide_eq_true hf; omega
      rw [e1] at H3
      exact ⟨rfl, H3.out, T1.out.trans T3.out⟩
  · have hR : deed st s.data.toList K = (15, st) := by
      unfold deed
      rw [if_pos hd]
    rw [hR]
    clear hR
    rw [hd] at c4
    go_enter Try.func26, Try.ntmps26
    go_wp2
    go_ret
    exact ⟨rfl, H.out, Turn.refl _ _⟩
omit h in
set_option maxHeartbeats 4000000 in
theorem deed_nil (s d : Value) : Calls Try.prog 26 #[.pointer none, s, d] w fun e w' => e = .returned (.int .i64 1) ∧ w = w' := by
  go_enter Try.func26, Try.ntmps26
  go_wp2
  go_ret
  exact ⟨rfl, rfl⟩
omit h in
set_option maxHeartbeats 4000000 in
theorem Sync_c {M : Nat} {D : DataW Unit} {F : List UInt8 → Option Nat} {u : Int} {s : List UInt8} {x : Fi} {k : Nat} (h : Dk w tag p M D F u st) (hx : get st.fl s = some x) (hk : F s = some k) :
    Calls Try.prog 27 #[.pointer (some ⟨k, 0, none⟩)] w fun e w' => e = .returned (.int .i64 0) ∧ Dk w' tag p M D F u { st with fl := put st.fl s ⟨x.b, x.b.length⟩ } ∧ Turn w w' tag tag := by
  obtain ⟨k', hk', v, e1, e2, e3⟩ := h.file s x hx
  rw [hk] at hk'
  injection hk' with hk'
  subst hk'
  have hlen : ∃ A c, v = .slice A x.b.length c := by
    rcases e3 with ⟨rfl, e⟩ | ⟨R, cap, cur, rfl, _⟩
    · exact ⟨_, _, by rw [e]; rfl⟩
    · exact ⟨_, _, rfl⟩
  obtain ⟨A, c, rfl⟩ := hlen
  have f0 : w.cell? ⟨k, 0, none⟩ = some (.slice A x.b.length c) := (blk_cell e1 0).trans rfl
  have f1 : w.cell? ⟨k, 1, none⟩ = some (.int .i64 x.sure) := (blk_cell e1 1).trans rfl
  have fz := blk_frozen e1 1
  have hcs := setCells_same k [.int .i64 (x.b.length : Int)] 1 w
  have hW := Aside0.mk (Dk.wrote (y := ⟨x.b, x.b.length⟩) h hx hk e2 (w4 := w.setCell ⟨k, 1, none⟩ (.int .i64 (x.b.length : Int))) (RTurn.refl h s) e3 (by rw [blk_set e1]; simp) hcs.1 hcs.2.1 hcs.2.2.1 hcs.2.2.2 (fun j hj => Below.heap_setCell w ⟨k, 1, none⟩ _ j hj))
  clear h hcs e1 e2 e3
  go_enter Try.func27, Try.ntmps27
  go_wp2
  go_ret
  exact ⟨rfl, hW.out⟩
end
end Go.Proofs.Ytcblcffkppiclaa.Dk
