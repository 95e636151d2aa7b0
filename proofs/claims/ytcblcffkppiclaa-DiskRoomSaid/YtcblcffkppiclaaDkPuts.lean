/- Bytes behind a file's. -/
import Derived.Test.YtcblcffkppiclaaDkFile
namespace Go.Proofs.Ytcblcffkppiclaa.Dk
open Go.RowKit Go.Maps Go.Proofs.Ytcblcffkppiclaa.DkMap Go.Proofs.YtcblcffkppiclaaW.PrintWords Go.Proofs.YtcblcffkppiclaaW.PrintLast Go.Proofs.YtcblcffkppiclaaW.PrintMore
attribute [local go_sem] max2_int min2_int max_two min_two max_three min_three max_four min_four
set_option linter.unusedVariables false
set_option linter.unusedSimpArgs false
/-- An argument's bytes in memory: in a block that is not the disk's. -/
structure Arg (w : World) (tag : Tags) (A : Option Addr) (c : Nat) (b : List Int) : Prop where
  nil : A = none → b.length = 0 ∧ c = 0
  cell : ∀ ad, A = some ad → ∀ j u, b[j]? = some u → w.cell? (ad.add j) = some (.int .u8 u)
  out : ∀ ad, A = some ad → 0 < b.length → ad.block < w.heap.size ∧ tag ad.block = none
theorem Arg.turn {w w' : World} {tag tag' : Tags} {A : Option Addr} {c : Nat} {b : List Int} (h : Arg w tag A c b) (hT : Turn w w' tag tag') : Arg w' tag' A c b :=
  ⟨h.nil, fun ad hA j u hj => by
    obtain ⟨h1, h2⟩ := h.out ad hA (Nat.lt_of_le_of_lt (Nat.zero_le j) (List.getElem?_eq_some_iff.1 hj).1)
    have hbk : (ad.add j).block = ad.block := by unfold Addr.add; split <;> rfl
    rw [World.cell?_of_block (a := ad.add j) (w := w) (by rw [hbk]; exact hT.block ad.block h1 h2)]
    exact h.cell ad hA j u hj, fun ad hA hp => by
    obtain ⟨h1, h2⟩ := h.out ad hA hp
    exact ⟨Nat.lt_of_lt_of_le h1 hT.size, hT.tags _ h1 h2⟩⟩
theorem FRow.slice {w : World} {tag : Tags} {s : List UInt8} {v : Value} {xs : List Int} (h : FRow w tag s v xs) : ∃ A n c, v = .slice A n c := by
  rcases h with ⟨rfl, _⟩ | ⟨R, cap, cur, rfl, _⟩
  · exact ⟨_, _, _, rfl⟩
  · exact ⟨_, _, _, rfl⟩
section
variable (w : World) (tag : Tags) (p M : Nat) (D : DataW Unit) (F : List UInt8 → Option Nat) (st : St)
set_option maxHeartbeats 8000000 in
theorem put_old (h : Dk w tag p M D F (used st.fl) st) (hok : st.Ok) (s : ByteArray) (hs : s.size ≤ maxLen) (hn : isName s.data.toList = true) (x : Fi) (hx : get st.fl s.data.toList = some x) (A : Option Addr) (b : List Int) (c : Nat) (hA : Arg w tag A c b) (hb0 : b.length ≤ 1099511627776) (hfull : ¬ st.room < used st.fl + b.length) :
    Calls Try.prog 24 #[.pointer (some ⟨p, 0, none⟩), .string s, .slice A b.length c] w fun e w' => ∃ tag', e = .returned (.int .i64 0) ∧ (∃ u, u = (used st.fl : Int) + b.length ∧ Dk w' tag' p M D F u { st with fl := put st.fl s.data.toList ⟨x.b ++ b, x.sure⟩ }) ∧ Turn w w' tag tag' := by
  have hs2 : s.size ≤ 9223372036854775807 := by unfold maxLen at hs; omega
  obtain ⟨c0, c1, c2, c3, c4⟩ := Dk.cells h
  have hfits := hok.fits
  have hroom := hok.room
  have hux := get_used hx
  have hw : IntKind.i64.wrap ((st.room : Int) - (used st.fl : Int)) = (st.room : Int) - used st.fl := (IntKind.wrap_i64 _).trans (by omega)
  have hgt : ¬ (st.room : Int) - used st.fl < (b.length : Int) := by omega
  obtain ⟨k, hk, hfb⟩ := h.file _ _ hx
  have hlk : (Instr.lookup 50 (.map (some M)) (.string s) false).run Try.prog w = .ok (.pointer (some ⟨k, 0, none⟩)) w := Dk.look h s hs (some k) hk
  have H := Aside0.mk h
  have HA := Aside0.mk hA
  have HX := Aside0.mk hx
  have HF := Aside0.mk hfb
  have HK := Aside0.mk hk
  clear h hok hA hx hfb hk hfull
  go_enter Try.func24, Try.ntmps24
  go_wp2_with (go_at_call 35; (with_reducible refine (isName_ok _ s hs2).mono ?_); rintro e w2 ⟨he, hb⟩; rw [hn] at he; subst he; have h2 := IsDk.below H.out hb; obtain ⟨d0, d1, d2, d3, d4⟩ := Dk.cells h2)
  go_region
  have hB := below_drew1 hb
  have h3 := IsDk.below H.out hB
  have hA3 := HA.out.turn (Turn.below hB)
  have hT3 := Turn.below (tag := tag) hB
  obtain ⟨v, e1, e2, e3⟩ := HF.out.same (w' := w2.drew) (tag' := tag) (fun j hj => hB.block j (by rcases hj with hj | hj <;> exact Dk.ltag H.out hj)) (fun _ _ _ h => h)
  obtain ⟨A0, n0, c0, rfl⟩ := e3.slice
  have hv0 : w2.drew.cell? ⟨k, 0, none⟩ = some (.slice A0 n0 c0) := (blk_cell e1 0).trans rfl
  have hfz := blk_frozen e1 0
  generalize w2.drew = w3 at h3 hA3 hT3 e1 e3 hv0 hfz ⊢
  clear hb hB d0 d1 d2 d3 d4 h2
  obtain ⟨d0, d1, d2, d3, d4⟩ := Dk.cells h3
  go_wp2_with (at_builtin; refine frow_append rfl (.tmp 57) (.tmp 58) rfl rfl A b.length c b rfl (fun h => ⟨(hA3.nil h).1, (hA3.nil h).2⟩) rfl hA3.cell e3 h3.fresh (by omega) ?_)
  intro v' w5 tag' hR hTr
  obtain ⟨A', n', c', rfl⟩ := hR.slice
  have e5 := (hTr.block k (blk_lt e1) (by rw [e2]; intro e; cases e)).trans e1
  have p5 := (hTr.block p h3.lt (by rw [h3.tp]; intro e; cases e)).trans h3.head
  have hkp : p ≠ k := by intro e; have := h3.tp; rw [e, e2] at this; cases this
  have f0 : w5.cell? ⟨k, 0, none⟩ = some (.slice A0 n0 c0) := (blk_cell e5 0).trans rfl
  have f1 := blk_frozen e5 0
  have p6 := blk_far p5 (p := ⟨k, 0, none⟩) hkp (.slice A' n' c')
  have q0 : (w5.setCell ⟨k, 0, none⟩ (.slice A' n' c')).cell? ⟨p, 1, none⟩ = some (.int .i64 (used st.fl)) := (blk_cell p6 1).trans rfl
  have q1 := blk_frozen p6 1
  have k6 := blk_set e5 0 (.slice A' n' c')
  have hW := fun (w4 : World) hb ho htp hou hs hsame => Dk.wrote (y := ⟨x.b ++ b, x.sure⟩) h3 HX.out HK.out e2 (w4 := w4) hTr hR hb ho htp hou hs hsame
  have hcs := setCells_same k [.slice A' n' c'] 0 w5
  have hW2 := Aside0.mk (hW (w5.setCell ⟨k, 0, none⟩ (.slice A' n' c')) (by rw [k6]; simp) hcs.1 hcs.2.1 hcs.2.2.1 hcs.2.2.2 (fun j hj => Below.heap_setCell w5 ⟨k, 0, none⟩ _ j hj))
  have HE := Aside0.mk hT3
  clear hW hR hTr h3 hA3 hT3 H HA HX HF HK e3 e1 e5 p5 k6 hcs hv0 hfz d0 d1 d2 d3 d4 p6
  go_wp2
  go_ret
  obtain ⟨g1, g2⟩ := hW2.out
  exact ⟨tag', rfl, ⟨_, rfl, Dk.setUsed g1 _⟩, HE.out.trans (g2.trans (Turn.head g1 _ _))⟩
set_option maxHeartbeats 8000000 in
theorem put_new (h : Dk w tag p M D F (used st.fl) st) (hok : st.Ok) (s : ByteArray) (hs : s.size ≤ maxLen) (hn : isName s.data.toList = true) (hx : get st.fl s.data.toList = none) (hl : st.fl.length ≠ 65536) (A : Option Addr) (b : List Int) (c : Nat) (hA : Arg w tag A c b) (hb0 : b.length ≤ 1099511627776) (hfull : ¬ st.room < used st.fl + b.length) :
    Calls Try.prog 24 #[.pointer (some ⟨p, 0, none⟩), .string s, .slice A b.length c] w fun e w' => ∃ tag' D' F', e = .returned (.int .i64 0) ∧ (∃ u, u = (used st.fl : Int) + b.length ∧ Dk w' tag' p M D' F' u { st with fl := put st.fl s.data.toList ⟨b, 0⟩ }) ∧ Turn w w' tag tag' := by
  have hs2 : s.size ≤ 9223372036854775807 := by unfold maxLen at hs; omega
  obtain ⟨c0, c1, c2, c3, c4⟩ := Dk.cells h
  have hfits := hok.fits
  have hroom := hok.room
  have hfew := hok.few
  have hl0 : (((st.fl.length : Nat) : Int) == 65536) = false := by rw [beq_eq_false_iff_ne]; omega
  have hw : IntKind.i64.wrap ((st.room : Int) - (used st.fl : Int)) = (st.room : Int) - used st.fl := (IntKind.wrap_i64 _).trans (by omega)
  have hgt : ¬ (st.room : Int) - used st.fl < (b.length : Int) := by omega
  have hlk : (Instr.lookup 50 (.map (some M)) (.string s) false).run Try.prog w = .ok (.pointer none) w := Dk.look h s hs none (h.away _ hx)
  have hkey := Go.WideMaps.keyOf_string_mk (P := Try.prog) Try.underlying9 hs
  have H := Aside0.mk h
  have HA := Aside0.mk hA
  have HX := Aside0.mk hx
  have HKEY := Aside0.mk hkey
  clear h hok hA hx hfull hkey
  go_enter Try.func24, Try.ntmps24
  go_wp2_with (go_at_call 35; (with_reducible refine (isName_ok _ s hs2).mono ?_); rintro e w2 ⟨he, hb⟩; rw [hn] at he; subst he; have h2 := IsDk.below H.out hb; obtain ⟨d0, d1, d2, d3, d4⟩ := Dk.cells h2; have hlen := Dk.lens h2)
  go_region
  have hB := below_drew1 hb
  have h3 := IsDk.below H.out hB
  have hA3 := HA.out.turn (Turn.below hB)
  have hT3 := Turn.below (tag := tag) hB
  generalize w2.drew = w3 at h3 hA3 hT3 ⊢
  clear hb hB d0 d1 d2 d3 d4 h2 hlen
  have hB4 := below_alloc (Below.refl w3.heap.size w3) (.cells #[.slice none 0 0, .int .i64 0] 57)
  have h4 := IsDk.below h3 hB4
  obtain ⟨d0, d1, d2, d3, d4⟩ := Dk.cells h4
  have H3 := Aside0.mk h3
  have H4 := Aside0.mk h4
  have HA3 := Aside0.mk hA3
  have HT3 := Aside0.mk hT3
  clear h3 h4 hA3 hT3 hB4
  go_wp2_with (at_mapUpdate; refine wpList_mapUpdate_own _ rfl (.tmp 50) (.tmp 51) (.tmp 52) 50 rfl 9 55 K9 Try.underlying50 ptrElem M st.fl.length D rfl H4.out.mp.own (by unfold maxLen; omega) (.string s) (.pointer (some ⟨w3.heap.size, 0, none⟩)) (.string s.data.toList) rfl rfl HKEY.out (.lit (.int .u64 (w3.heap.size : Int))) [] rfl ?_)
  intro wm hown hgr
  obtain ⟨tag1, e2, h3, hT5⟩ := Dk.added H3.out HX.out hown hgr
  have hA3 := HA3.out.turn hT5
  have hT3 := HT3.out.trans hT5
  obtain ⟨k', hk', hfb⟩ := h3.file s.data.toList ⟨[], 0⟩ (by show get (put st.fl _ _) _ = _; rw [get_put, if_pos rfl])
  have hkk : k' = w3.heap.size := by have := hk'; unfold upd at this; rw [if_pos rfl] at this; injection this with this; exact this.symm
  subst hkk
  clear hown hgr H3 H4 HA3 HT3 hT5 HKEY hlk d0 d1 d2 d3 d4
  generalize w3.heap.size = k at *
  obtain ⟨v, e1, _, e3⟩ := hfb
  obtain ⟨A0, n0, c0, rfl⟩ := e3.slice
  have hv0 : wm.cell? ⟨k, 0, none⟩ = some (.slice A0 n0 c0) := (blk_cell e1 0).trans rfl
  have hfz := blk_frozen e1 0
  obtain ⟨d0, d1, d2, d3, d4⟩ := Dk.cells h3
  go_wp2_with (at_builtin; refine frow_append rfl (.tmp 57) (.tmp 58) rfl rfl A b.length c b rfl (fun h => ⟨(hA3.nil h).1, (hA3.nil h).2⟩) rfl hA3.cell e3 h3.fresh (by simp; omega) ?_)
  intro v' w5 tag' hR hTr
  obtain ⟨A', n', c', rfl⟩ := hR.slice
  have e5 := (hTr.block k (blk_lt e1) (by rw [e2]; intro e; cases e)).trans e1
  have p5 := (hTr.block p h3.lt (by rw [h3.tp]; intro e; cases e)).trans h3.head
  have hkp : p ≠ k := by intro e; have := h3.tp; rw [e, e2] at this; cases this
  have f0 : w5.cell? ⟨k, 0, none⟩ = some (.slice A0 n0 c0) := (blk_cell e5 0).trans rfl
  have f1 := blk_frozen e5 0
  have p6 := blk_far p5 (p := ⟨k, 0, none⟩) hkp (.slice A' n' c')
  have q0 : (w5.setCell ⟨k, 0, none⟩ (.slice A' n' c')).cell? ⟨p, 1, none⟩ = some (.int .i64 (used st.fl)) := (blk_cell p6 1).trans rfl
  have q1 := blk_frozen p6 1
  have k6 := blk_set e5 0 (.slice A' n' c')
  have hW := fun (w4 : World) hb ho htp hou hs hsame => Dk.wrote (x := ⟨[], 0⟩) (y := ⟨[] ++ b, 0⟩) h3 (by show get (put st.fl _ _) _ = _; rw [get_put, if_pos rfl]) hk' e2 (w4 := w4) hTr hR hb ho htp hou hs hsame
  have hcs := setCells_same k [.slice A' n' c'] 0 w5
  have hW2 := Aside0.mk (hW (w5.setCell ⟨k, 0, none⟩ (.slice A' n' c')) (by rw [k6]; simp) hcs.1 hcs.2.1 hcs.2.2.1 hcs.2.2.2 (fun j hj => Below.heap_setCell w5 ⟨k, 0, none⟩ _ j hj))
  have HE := Aside0.mk hT3
  clear hW hR hTr h3 hA3 hT3 H HA HX e3 e1 e5 p5 k6 hcs hv0 hfz d0 d1 d2 d3 d4 p6 hk'
  go_wp2
  go_ret
  obtain ⟨g1, g2⟩ := hW2.out
  rw [put_put] at g1
  exact ⟨rfl, tag', ⟨_, _, Dk.setUsed g1 _⟩, HE.out.trans (g2.trans (Turn.head g1 _ _))⟩
end
/-- put, whole. -/
theorem put_ok (w : World) (tag : Tags) (p : Nat) (st : St) (h : Dsk Try.prog w tag p st) (s : ByteArray) (hs : s.size ≤ maxLen) (A : Option Addr) (b : List Int) (c : Nat) (hA : Arg w tag A c b) (hb0 : b.length ≤ 1099511627776) :
    Calls Try.prog 24 #[.pointer (some ⟨p, 0, none⟩), .string s, .slice A b.length c] w fun e w' => ∃ tag', e = .returned (.int .i64 (putb st s.data.toList b).1) ∧ Dsk Try.prog w' tag' p (putb st s.data.toList b).2 ∧ Turn w w' tag tag' := by
  obtain ⟨hok, M, D, F, h⟩ := h
  have hOk := Ok_putb hok s.data.toList b
  unfold putb at hOk ⊢
  by_cases hn : isName s.data.toList = false
  · rw [if_pos hn]
    refine (put_bad w tag p M D F st h s hs hn _).mono ?_
    rintro e w' ⟨rfl, hb⟩
    exact ⟨tag, rfl, ⟨hok, M, D, F, IsDk.below h hb⟩, Turn.below hb⟩
  · rw [if_neg hn] at hOk ⊢
    have hn : isName s.data.toList = true := by simpa using hn
    by_cases hm : (get st.fl s.data.toList).isNone = true ∧ st.fl.length = 65536
    · rw [if_pos hm]
      refine (put_many w tag p M D F st h s hs hn (by simpa using hm.1) hm.2 _).mono ?_
      rintro e w' ⟨rfl, hb⟩
      exact ⟨tag, rfl, ⟨hok, M, D, F, IsDk.below h hb⟩, Turn.below hb⟩
    · rw [if_neg hm] at hOk ⊢
      by_cases hf : st.room < used st.fl + b.length
      · rw [if_pos hf]
        refine (put_full w tag p M D F st h hok s hs hn _ rfl (fun hx hl => hm ⟨?_, hl⟩) A b.length c (by omega) hf).mono ?_
        · cases hg : get st.fl s.data.toList with
          | none => rfl
          | some x => obtain ⟨k, hk, _⟩ := h.file _ _ hg; rw [hk] at hx; cases hx
        · rintro e w' ⟨rfl, hb⟩
          exact ⟨tag, rfl, ⟨hok, M, D, F, IsDk.below h hb⟩, Turn.below hb⟩
      · rw [if_neg hf] at hOk ⊢
        cases hg : get st.fl s.data.toList with
        | none =>
          rw [hg] at hOk hm
          refine (put_new w tag p M D F st h hok s hs hn hg (fun e => hm ⟨rfl, e⟩) A b c hA hb0 hf).mono ?_
          rintro e w' ⟨tag', D', F', rfl, ⟨u, rfl, hD⟩, hT⟩
          have hu := used_put st.fl s.data.toList ⟨b, 0⟩
          rw [hg] at hu
          simp at hu
          refine ⟨tag', rfl, ⟨hOk, M, D', F', ?_⟩, hT⟩
          show IsDk Try.prog w' tag' p M D' F' ((used (put st.fl s.data.toList ⟨b, 0⟩) : Nat) : Int) { st with fl := put st.fl s.data.toList ⟨b, 0⟩ }
          rw [hu]
          simpa using hD
        | some x =>
          rw [hg] at hOk
          refine (put_old w tag p M D F st h hok s hs hn x hg A b c hA hb0 hf).mono ?_
          rintro e w' ⟨tag', rfl, ⟨u, rfl, hD⟩, hT⟩
          have hu := used_put st.fl s.data.toList ⟨x.b ++ b, x.sure⟩
          rw [hg] at hu
          simp at hu
          refine ⟨tag', rfl, ⟨hOk, M, D, F, ?_⟩, hT⟩
          show IsDk Try.prog w' tag' p M D F ((used (put st.fl s.data.toList ⟨x.b ++ b, x.sure⟩) : Nat) : Int) { st with fl := put st.fl s.data.toList ⟨x.b ++ b, x.sure⟩ }
          rw [show used (put st.fl s.data.toList ⟨x.b ++ b, x.sure⟩) = used st.fl + b.length by omega]
          simpa using hD
end Go.Proofs.Ytcblcffkppiclaa.Dk
