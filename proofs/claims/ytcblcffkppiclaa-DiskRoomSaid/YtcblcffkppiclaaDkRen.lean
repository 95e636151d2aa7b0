/- Rename. -/
import Derived.Test.YtcblcffkppiclaaDkDel
import Derived.Deep.RegionLaw
import Derived.Lib.SlicesS
namespace Go.Proofs.Ytcblcffkppiclaa.Dk
open Go.RowKit Go.Maps Go.Sort Go.Proofs.Ytcblcffkppiclaa.DkMap Go.Proofs.YtcblcffkppiclaaW.PrintWords Go.Proofs.YtcblcffkppiclaaW.PrintLast Go.Proofs.YtcblcffkppiclaaW.PrintMore Go.Proofs.Ytcblcffkppiclaa.PDiskNil
attribute [local go_sem] max2_int min2_int max_two min_two max_three min_three max_four min_four
set_option linter.unusedVariables false
set_option linter.unusedSimpArgs false
set_option linter.unusedSectionVars false
/-- delete, as one step of a region that draws. -/
theorem step_delete_own {H : Type} {P : Program} {w : World} {ops : Array Oper} {o : Oper} {a : Act} {K : Act → World → Prop} {Q : Exit → Act → World → Prop} {E : Prop} (hg : o.guard = none) (m x : Operand) (t k : TypeId) (hop : o.op = Op.call { callee := Callee.builtin Builtin.delete, args := #[m, x], argTypes := #[t, k] })
    (e : TypeId) (KK : Keyed P k) (ht : P.underlying t = some (.map k e)) (R : Value → Option (DataW H × List MemPlace)) (b n : Nat) (D : DataW H)
    (hm : a.eval m = .map (some b)) (hown : w.ownsMap P k R b n D) (key : Value) (kl : Lit) (hx : a.eval x = key) (hkey : keyOf P k key = some kl)
    (hK : ∀ w', w'.ownsMap P k R b n (D.del kl) → w.mapTurned w' b → K (a.put o.dst (.tuple #[])) w') :
    if Region.wanted o (yielded ops a.tmps) = true then Oper.wp P o a w K Q else E := by
  have hw : Region.wanted o (yielded ops a.tmps) = true := by simp [Region.wanted, hg]
  rw [if_pos hw]
  obtain ⟨w', hrun, r1, r2⟩ := hown.drop KK ht hkey o.type
  unfold Oper.wp
  simp [execOp, hop, resolve, invoke, builtin, hm, hx, hrun, Result.andThen]
  exact hK w' r1 r2
def reTag (s t : List UInt8) : Tag → Tag
  | .file r => if r = s then .file t else .file r
  | .row r => if r = s then .row t else .row r
  | x => x
theorem blk_alloc_lt' {w : World} (o : Obj) {k : Nat} (h : k < w.heap.size) : (w.alloc o).heap[k]? = w.heap[k]? := (below_alloc (Below.refl w.heap.size w) o).block k h
def reTags (tag : Tags) (s t : List UInt8) : Tags := fun j => (tag j).map (reTag s t)
theorem IsDk.retag {w : World} {tag : Tags} {p M : Nat} {D : DataW Unit} {F : List UInt8 → Option Nat} {u : Int} {st : St} (h : Dk w tag p M D F u st) {s : List UInt8} (t : List UInt8) (hg : get st.fl s = none) : Dk w (reTags tag s t) p M D F u st := by
  refine ⟨h.head, h.mp, h.size, fun r x hx => ?_, h.away, by unfold reTags; rw [h.tp]; rfl, by unfold reTags; rw [h.tm]; rfl, fun k hk => by unfold reTags; rw [h.fresh k hk]; rfl⟩
  have hr : r ≠ s := fun e => by rw [e, hg] at hx; cases hx
  obtain ⟨k, h1, h2⟩ := h.file r x hx
  refine ⟨k, h1, h2.same (fun _ _ => rfl) (fun j q hq hj => ?_)⟩
  unfold reTags
  rw [hj]
  rcases hq with rfl | rfl
  · show some (if r = s then Tag.row t else Tag.row r) = _
    rw [if_neg hr]
  · show some (if r = s then Tag.file t else Tag.file r) = _
    rw [if_neg hr]
/-- A file that had no name is given one. -/
theorem Dk.renamed {w w4 : World} {tag : Tags} {p M k : Nat} {D : DataW Unit} {F : List UInt8 → Option Nat} {u : Int} {st : St} {s t : List UInt8} {x : Fi} (h : Dk w tag p M D F u st) (hs : get st.fl s = none) (ht : get st.fl t = none) (hb : FBlk w tag s x k)
    (hown : w4.ownsMap Try.prog 9 ptrElem M (st.fl.length + 1) (D.put (.string t) (.lit (.int .u64 (k : Int))))) (hgr : w.grownBy w4 (some M)) :
    Dk w4 (reTags tag s t) p M (D.put (.string t) (.lit (.int .u64 (k : Int)))) (upd F t (some k)) u { st with fl := put st.fl t x } ∧ Turn w w4 tag (reTags tag s t) := by
  have hlen : (put st.fl t x).length = st.fl.length + 1 := by rw [len_put, ht]; rfl
  have h1 := IsDk.retag h t hs
  have hold : ∀ j, j ≠ M → j < w.heap.size → w4.heap[j]? = w.heap[j]? := fun j hne hj => hgr.block j hj (fun e => hne (by injection e))
  have hfs : Maps.has D (.string t) = false := by rw [h.mp.has, h.away t ht]; rfl
  obtain ⟨v, e1, e2, e3⟩ := hb
  have hkt : reTags tag s t k = some (.file t) := by unfold reTags; rw [e2]; show some (if s = s then Tag.file t else _) = _; rw [if_pos rfl]
  have hne : ∀ {j q}, tag j = some q → q ≠ .map → j ≠ M := fun hj hq e => by rw [e, h.tm] at hj; cases hj; exact hq rfl
  have hlt : ∀ {j q}, reTags tag s t j = some q → j < w.heap.size := fun {j q} hj => by
    rcases Nat.lt_or_ge j w.heap.size with h9 | h9
    · exact h9
    · rw [h1.fresh j h9] at hj; cases hj
  have hblk : FBlk w4 (reTags tag s t) t x k := by
    refine ⟨v, (hold k (hne e2 (by intro e; cases e)) (blk_lt e1)).trans e1, hkt, ?_⟩
    rcases e3 with e | ⟨R, cap, cur, f1, f2, f3, f4, f5, f6, f7⟩
    · exact .inl e
    · exact .inr ⟨R, cap, cur, f1, (hold R (hne f7 (by intro e; cases e)) (blk_lt f2)).trans f2, f3, f4, f5, f6, by unfold reTags; rw [f7]; show some (if s = s then Tag.row t else _) = _; rw [if_pos rfl]⟩
  refine ⟨h1.setFile (k := k) (fun r hr => by rw [get_put, if_neg hr]) (by rw [get_put, if_pos rfl]) (by rw [hlen]; exact h.mp.put hown) ?_ (fun r hr => if_neg hr) (if_pos rfl) hblk hgr.size (fun j q hj h5 h6 h7 => hold j (fun e => by rw [e, h1.tm] at hj; cases hj; exact h7 rfl) (hlt hj)) (fun j q hj _ _ => hj) (fun j hj => h1.fresh j (Nat.le_trans hgr.size hj)), ?_⟩
  · rw [hlen, size_put (h.mp.own.tidy K9), hfs, h.size]; rfl
  · exact ⟨hgr.os, hgr.tape, hgr.output, hgr.size, fun j hj hn => hold j (fun e => by rw [e, h.tm] at hn; cases hn) hj, fun j _ hn => by unfold reTags; rw [hn]; rfl⟩
section
variable (w : World) (tag : Tags) (p M k : Nat) (D : DataW Unit) (F : List UInt8 → Option Nat) (st : St) (h : Dk w tag p M D F (used st.fl) st) (hok : st.Ok) (s t : ByteArray) (hs : s.size ≤ maxLen) (ht : t.size ≤ maxLen) (x : Fi) (hx : get st.fl s.data.toList = some x) (hk : F s.data.toList = some k)
  (bt bf bd : Addr) (hd : w.cell? bd = some (.pointer (some ⟨p, 0, none⟩))) (hn : w.cell? bf = some (.string s)) (hn2 : w.cell? bt = some (.string t))
  (hbd : bd.block < w.heap.size ∧ tag bd.block = none) (hbf : bf.block < w.heap.size ∧ tag bf.block = none) (hbt : bt.block < w.heap.size ∧ tag bt.block = none)
include h hok hs ht hx hk hd hn hn2 hbd hbf hbt
set_option maxHeartbeats 4000000 in
theorem Rename_c1 (hT : isName t.data.toList = false) : Calls Try.prog 34 #[.pointer (some ⟨k, 0, none⟩), .pointer (some bt), .pointer (some bf), .pointer (some bd)] w fun e w' => e = .returned (.int .i64 1) ∧ Below w.heap.size w w' := by
  have hs2 : t.size ≤ 9223372036854775807 := by unfold maxLen at ht; omega
  clear h hok hx hk
  go_enter Try.func34, Try.ntmps34
  go_wp2_with (go_at_call 35; (with_reducible refine (isName_ok _ t hs2).mono ?_); rintro e w2 ⟨he, hb⟩; rw [hT] at he; subst he)
  go_ret
  exact ⟨rfl, hb⟩
set_option maxHeartbeats 4000000 in
theorem Rename_c2 (hT : isName t.data.toList = true) (hst : s = t) : Calls Try.prog 34 #[.pointer (some ⟨k, 0, none⟩), .pointer (some bt), .pointer (some bf), .pointer (some bd)] w fun e w' => e = .returned (.int .i64 0) ∧ Below w.heap.size w w' := by
  have hs2 : t.size ≤ 9223372036854775807 := by unfold maxLen at ht; omega
  subst hst
  clear h hok hx hk
  go_enter Try.func34, Try.ntmps34
  go_wp2_with (go_at_call 35; (with_reducible refine (isName_ok _ s hs2).mono ?_); rintro e w2 ⟨he, hb⟩; rw [hT] at he; subst he; have g1 := (World.cell?_of_block (hb.block _ hbt.1)).trans hn2; have g2 := (World.cell?_of_block (hb.block _ hbf.1)).trans hn)
  go_ret
  exact ⟨rfl, hb⟩
set_option maxHeartbeats 4000000 in
theorem Rename_c3 (hT : isName t.data.toList = true) (hst : s ≠ t) (hO2 : ({ st with fl := put (del (del st.fl t.data.toList) s.data.toList) t.data.toList x } : St).Ok) : Calls Try.prog 34 #[.pointer (some ⟨k, 0, none⟩), .pointer (some bt), .pointer (some bf), .pointer (some bd)] w fun e w' => e = .returned (.int .i64 0) ∧ ∃ tag', Dsk Try.prog w' tag' p { st with fl := put (del (del st.fl t.data.toList) s.data.toList) t.data.toList x } ∧ Turn w w' tag tag' := by
  have hs2 : t.size ≤ 9223372036854775807 := by unfold maxLen at ht; omega
  have H := Aside0.mk h
  have O := Aside0.mk hok
  have X := Aside0.mk hx
  have K := Aside0.mk hk
  have hdn : (s.toList == t.toList) = false := (Go.Lib.bytes_beq_false_iff s t).2 hst
  have hkey := Go.WideMaps.keyOf_string_mk (P := Try.prog) Try.underlying9 hs
  have hkey2 := Go.WideMaps.keyOf_string_mk (P := Try.prog) Try.underlying9 ht
  have hst2 : s.data.toList ≠ t.data.toList := fun e => hst (ByteArray.ext (Array.toList_inj.mp e))
  have hus : (used (put (del (del st.fl t.data.toList) s.data.toList) t.data.toList x) : Int) = (used (del st.fl t.data.toList) : Int) := by
    have a1 := used_put (del (del st.fl t.data.toList) s.data.toList) t.data.toList x
    have a2 := used_del (del st.fl t.data.toList) s.data.toList
    rw [get_del (Ok_del hok t.data.toList).apart, if_neg (fun e => hst2 e.symm), get_del hok.apart, if_pos rfl] at a1
    rw [get_del hok.apart, if_neg hst2, hx] at a2
    simp at a1 a2
    omega
  clear h hok hx hk
  go_enter Try.func34, Try.ntmps34
  go_wp2_with (first
    | (go_at_call 35; (with_reducible refine (isName_ok _ t hs2).mono ?_); rintro e w2 ⟨he, hb⟩; rw [hT] at he; subst he; have g1 := (World.cell?_of_block (hb.block _ hbt.1)).trans hn2; have g2 := (World.cell?_of_block (hb.block _ hbf.1)).trans hn; have g3 := (World.cell?_of_block (hb.block _ hbd.1)).trans hd; have B := Aside0.mk hb; clear hb)
    | (go_at_call 36; (with_reducible refine (remove_ok _ _ _ _ _ _ _ (IsDk.below H.out B.out) O.out t ht).mono ?_); rintro e w1 ⟨rfl, ⟨D', F', h1, hF⟩, t1⟩; have H1 := Aside0.mk h1; have HF := Aside0.mk hF; have T1 := Aside0.mk ((Turn.below (tag := tag) B.out).trans t1); clear h1 t1 hF))
  have g4 := (T1.out.cell hbt.1 hbt.2).trans hn2
  have g5 := (T1.out.cell hbf.1 hbf.2).trans hn
  have g6 := (T1.out.cell hbd.1 hbd.2).trans hd
  obtain ⟨c0, c1, c2, c3, c4⟩ := Dk.cells H1.out
  have m1 := H1.out.mp.own
  go_region_law (refine step_delete_own rfl _ _ 50 9 rfl 55 K9 Try.underlying50 ptrElem M _ D' rfl m1 _ (.string s.data.toList) rfl hkey ?_; intro w3 hown hmt)
  all_goals
    have hdr := below_drew1 (Below.refl w1.heap.size w1)
    obtain ⟨h3, t3⟩ := Dk.dropped (IsDk.below H1.out hdr) (Ok_del O.out t.data.toList).apart hown hmt.grown
    have hx1 : get (del st.fl t.data.toList) s.data.toList = some x := by rw [get_del O.out.apart, if_neg hst2]; exact X.out
    obtain ⟨k1, hk1, hblk⟩ := H1.out.file _ _ hx1
    rw [HF.out _ hst2, K.out] at hk1
    injection hk1 with hk1
    subst hk1
    have hblk3 : FBlk w3 tag s.data.toList x k := hblk.same (fun j hj => (hmt.grown.block j (show j < w1.heap.size by rcases hj with hj | hj <;> exact Dk.ltag H1.out hj) (fun e => by injection e with e; rcases hj with hj | hj <;> · rw [e, H1.out.tm] at hj; cases hj)).trans rfl) (fun _ _ _ h => h)
    have T3 := T1.out.trans ((Turn.below (tag := tag) hdr).trans t3)
    have g7 := (T3.cell hbt.1 hbt.2).trans hn2
    have g8 := (T3.cell hbd.1 hbd.2).trans hd
    have hdr3 := below_drew1 (Below.refl w3.heap.size w3)
    have h3d := IsDk.below h3 hdr3
    have hblk4 : FBlk w3.drew tag s.data.toList x k := hblk3.same (fun _ _ => rfl) (fun _ _ _ h => h)
    have T4 := T3.trans (Turn.below (tag := tag) hdr3)
    have hlenm : (del (del st.fl t.data.toList) s.data.toList).length < maxLen := by
      have := (Ok_del (Ok_del O.out t.data.toList) s.data.toList).few
      simp only at this
      unfold maxLen
      omega
    obtain ⟨w4, hrun, hown4, hmt4⟩ := h3d.mp.own.store K9 Try.underlying50 hlenm hkey2 (d := .lit (.int .u64 (k : Int))) (val := .pointer (some ⟨k, 0, none⟩)) (ps := []) rfl
    obtain ⟨c0, c1, c2, c3, c4⟩ := Dk.cells h3
    obtain ⟨h5, t5⟩ := Dk.renamed h3d (s := s.data.toList) (t := t.data.toList) (by show get (del _ _) _ = none; rw [get_del (Ok_del O.out t.data.toList).apart, if_pos rfl]) (by show get (del _ _) _ = none; rw [get_del (Ok_del O.out t.data.toList).apart, if_neg (fun e => hst2 e.symm)]; rw [get_del O.out.apart, if_pos rfl]) hblk4 hown4 hmt4.grown
    have H5 := Aside0.mk h5
    have T5 := Aside0.mk (T4.trans t5)
    clear h5 t5 T4 h3d hblk4 hblk3 hblk h3 t3 hmt hown hown4 hmt4 hx1
    go_wp2
    go_region
    all_goals
      go_wp2
      go_ret
      have e := H5.out
      rw [← hus] at e
      exact ⟨rfl, _, ⟨hO2, M, _, _, e⟩, T5.out⟩
end
set_option maxHeartbeats 4000000 in
theorem Rename_ok (w : World) (tag : Tags) (p : Nat) (st : St) (h : Dsk Try.prog w tag p st) (s t : ByteArray) (hs : s.size ≤ maxLen) (ht : t.size ≤ maxLen) :
    Calls Try.prog 19 #[.pointer (some ⟨p, 0, none⟩), .string s, .string t] w fun e w' => ∃ tag', e = .returned (.int .i64 (rename st s.data.toList t.data.toList).1) ∧ Dsk Try.prog w' tag' p (rename st s.data.toList t.data.toList).2 ∧ Turn w w' tag tag' := by
  have hOk := Ok_rename h.1 s.data.toList t.data.toList
  unfold rename at hOk ⊢
  have hb := below_alloc (below_alloc (below_alloc (Below.refl w.heap.size w) (.cells #[.pointer (some ⟨p, 0, none⟩)] 24)) (.cells #[.string s] 9)) (.cells #[.string t] 9)
  have h2 := Dsk.below h hb
  have T2 := Aside0.mk (Turn.below (tag := tag) hb)
  have hs1 : (w.alloc (.cells #[.pointer (some ⟨p, 0, none⟩)] 24)).heap.size = w.heap.size + 1 := by simp
  have hs2 : ((w.alloc (.cells #[.pointer (some ⟨p, 0, none⟩)] 24)).alloc (.cells #[.string s] 9)).heap.size = w.heap.size + 2 := by simp
  have hs3 : (((w.alloc (.cells #[.pointer (some ⟨p, 0, none⟩)] 24)).alloc (.cells #[.string s] 9)).alloc (.cells #[.string t] 9)).heap.size = w.heap.size + 3 := by simp
  have e2 := heap_alloc_new ((w.alloc (.cells #[.pointer (some ⟨p, 0, none⟩)] 24)).alloc (.cells #[.string s] 9)) (.cells #[.string t] 9)
  have e1 := heap_alloc_new (w.alloc (.cells #[.pointer (some ⟨p, 0, none⟩)] 24)) (.cells #[.string s] 9)
  have e0 := heap_alloc_new w (.cells #[.pointer (some ⟨p, 0, none⟩)] 24)
  rw [← blk_alloc_lt' (.cells #[.string s] 9) (by omega), ← blk_alloc_lt' (.cells #[.string t] 9) (by omega)] at e0
  rw [hs1, ← blk_alloc_lt' (.cells #[.string t] 9) (by omega)] at e1
  rw [hs2] at e2
  have n0 := Dsk.fresh h w.heap.size (Nat.le_refl _)
  have n1 := Dsk.fresh h (w.heap.size + 1) (by omega)
  have n2 := Dsk.fresh h (w.heap.size + 2) (by omega)
  by_cases hx : st.down = true ∨ fails st = true ∨ isName s.data.toList = false ∨ get st.fl s.data.toList = none
  · have HG := Aside0.mk (deed_stop _ tag p st h2 s hs (.func (.func 34) #[] #[.pointer (some ⟨w.heap.size + 2, 0, none⟩), .pointer (some ⟨w.heap.size + 1, 0, none⟩), .pointer (some ⟨w.heap.size, 0, none⟩)]) (fun (s' : St) (f : Fi) => if isName t.data.toList = false then ((1 : Int), s') else if s.data.toList = t.data.toList then ((0 : Int), s') else ((0 : Int), { s' with fl := put (del (del s'.fl t.data.toList) s.data.toList) t.data.toList f })) hx)
    clear h hx h2 hb n0 n1 n2 e0 e1 e2 hOk
    generalize deed st s.data.toList (fun (s' : St) (f : Fi) => if isName t.data.toList = false then ((1 : Int), s') else if s.data.toList = t.data.toList then ((0 : Int), s') else ((0 : Int), { s' with fl := put (del (del s'.fl t.data.toList) s.data.toList) t.data.toList f })) = r at HG ⊢
    go_enter Try.func19, Try.ntmps19
    go_wp2_with (go_at_call 26; (with_reducible refine HG.out.mono ?_); rintro e w1 ⟨rfl, h1, t1⟩; have H1 := Aside0.mk h1; have T1 := Aside0.mk t1; clear h1 t1)
    go_ret
    exact ⟨tag, rfl, H1.out, T2.out.trans T1.out⟩
  · simp only [not_or, Bool.not_eq_true, Bool.not_eq_false] at hx
    obtain ⟨hd, hf, hn, hg⟩ := hx
    obtain ⟨x, hx⟩ := Option.ne_none_iff_exists'.1 hg
    rw [deed_eq hd hf hn hx] at hOk ⊢
    have HO := Aside0.mk hOk
    have HG := Aside0.mk (deed_go34 _ tag p st h2 s hs hd hf hn x hx (.pointer (some ⟨w.heap.size + 2, 0, none⟩)) (.pointer (some ⟨w.heap.size + 1, 0, none⟩)) (.pointer (some ⟨w.heap.size, 0, none⟩)) (fun e w' => ∃ tag', e = .returned (.int .i64 (if isName t.data.toList = false then ((1 : Int), burn st) else if s.data.toList = t.data.toList then ((0 : Int), burn st) else ((0 : Int), { burn st with fl := put (del (del (burn st).fl t.data.toList) s.data.toList) t.data.toList x })).1) ∧ Dsk Try.prog w' tag' p (if isName t.data.toList = false then ((1 : Int), burn st) else if s.data.toList = t.data.toList then ((0 : Int), burn st) else ((0 : Int), { burn st with fl := put (del (del (burn st).fl t.data.toList) s.data.toList) t.data.toList x })).2 ∧ Turn _ w' tag tag') (fun w2 M D F k h3 hok2 t2 hk => by
      have q0 := (t2.cell (a := ⟨w.heap.size, 0, none⟩) (by rw [hs3]; show w.heap.size < _; omega) n0).trans ((blk_cell e0 0).trans rfl)
      have q1 := (t2.cell (a := ⟨w.heap.size + 1, 0, none⟩) (by rw [hs3]; show w.heap.size + 1 < _; omega) n1).trans ((blk_cell e1 0).trans rfl)
      have q2 := (t2.cell (a := ⟨w.heap.size + 2, 0, none⟩) (by rw [hs3]; show w.heap.size + 2 < _; omega) n2).trans ((blk_cell e2 0).trans rfl)
      have l := t2.size
      rw [hs3] at l
      have b0 := (⟨Nat.lt_of_lt_of_le (by omega) l, t2.tags w.heap.size (by rw [hs3]; omega) n0⟩ : w.heap.size < w2.heap.size ∧ tag w.heap.size = none)
      have b1 := (⟨Nat.lt_of_lt_of_le (by omega) l, t2.tags (w.heap.size + 1) (by rw [hs3]; omega) n1⟩ : w.heap.size + 1 < w2.heap.size ∧ tag (w.heap.size + 1) = none)
      have b2 := (⟨Nat.lt_of_lt_of_le (by omega) l, t2.tags (w.heap.size + 2) (by rw [hs3]; omega) n2⟩ : w.heap.size + 2 < w2.heap.size ∧ tag (w.heap.size + 2) = none)
      have hxb : get (burn st).fl s.data.toList = some x := by rw [burn_fl]; exact hx
      by_cases hT : isName t.data.toList = false
      · rw [if_pos hT]
        refine (Rename_c1 w2 tag p M k D F (burn st) h3 hok2 s t hs ht x hxb hk _ _ _ q0 q1 q2 b0 b1 b2 hT).mono ?_
        rintro e w3 ⟨rfl, hb3⟩
        exact ⟨⟨_, rfl⟩, tag, rfl, ⟨hok2, M, D, F, IsDk.below h3 hb3⟩, t2.trans (Turn.below hb3)⟩
      · rw [if_neg hT] at hOk ⊢
        simp only [Bool.not_eq_false] at hT
        by_cases hst : s.data.toList = t.data.toList
        · rw [if_pos hst]
          refine (Rename_c2 w2 tag p M k D F (burn st) h3 hok2 s t hs ht x hxb hk _ _ _ q0 q1 q2 b0 b1 b2 hT (ByteArray.ext (Array.toList_inj.mp hst))).mono ?_
          rintro e w3 ⟨rfl, hb3⟩
          exact ⟨⟨_, rfl⟩, tag, rfl, ⟨hok2, M, D, F, IsDk.below h3 hb3⟩, t2.trans (Turn.below hb3)⟩
        · rw [if_neg hst] at hOk ⊢
          refine (Rename_c3 w2 tag p M k D F (burn st) h3 hok2 s t hs ht x hxb hk _ _ _ q0 q1 q2 b0 b1 b2 hT (fun e => hst (by rw [e])) hOk).mono ?_
          rintro e w3 ⟨rfl, tag', h4, t4⟩
          exact ⟨⟨_, rfl⟩, tag', rfl, h4, t2.trans t4⟩))
    clear h hx hg h2 hb n0 n1 n2 e0 e1 e2 hOk HO
    generalize (if isName t.data.toList = false then ((1 : Int), burn st) else if s.data.toList = t.data.toList then ((0 : Int), burn st) else ((0 : Int), { burn st with fl := put (del (del (burn st).fl t.data.toList) s.data.toList) t.data.toList x })) = r at HG ⊢
    go_enter Try.func19, Try.ntmps19
    go_wp2_with (go_at_call 26; (with_reducible refine HG.out.mono ?_); rintro e w1 ⟨tag', rfl, h1, t1⟩; have H1 := Aside0.mk h1; have T1 := Aside0.mk t1; clear h1 t1)
    go_ret
    exact ⟨tag', rfl, H1.out, T2.out.trans T1.out⟩
end Go.Proofs.Ytcblcffkppiclaa.Dk
