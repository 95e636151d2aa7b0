/- What is done with a disk: the acts, in memory and as plain data; the law's 'do'. -/
import Derived.Test.YtcblcffkppiclaaDkCutd
namespace Go.Proofs.Ytcblcffkppiclaa.Dk
open Go.RowKit Go.Maps Go.Sort Go.Proofs.Ytcblcffkppiclaa.DkMap Go.Proofs.YtcblcffkppiclaaW.PrintWords Go.Proofs.YtcblcffkppiclaaW.PrintLast Go.Proofs.YtcblcffkppiclaaW.PrintMore Go.Proofs.Ytcblcffkppiclaa.PDiskNil
attribute [local go_sem] max2_int min2_int max_two min_two max_three min_three max_four min_four
set_option linter.unusedVariables false
set_option linter.unusedSimpArgs false
set_option linter.unusedSectionVars false
structure DAct where
  kind : Int
  nm : List UInt8
  ton : List UInt8
  b : List Int
  n : Int
  ks : List Int
def act (s : St) (a : DAct) : Int × St :=
  if a.kind = 0 ∨ a.kind = 1 then append s a.nm a.b
  else if a.kind = 2 then sync s a.nm
  else if a.kind = 3 then rename s a.nm a.ton
  else if a.kind = 4 then delete s a.nm
  else if a.kind = 5 then cut s a.nm a.n
  else if a.kind = 6 then (0, { s with fuse := max a.n (-1) })
  else if a.kind = 7 then (0, boot s a.ks)
  else (0, s)
/-- An act's cells. -/
structure ActV (w : World) (tag : Tags) (cs : Nat → Option Value) (a : DAct) : Prop where
  ex : ∃ (s t : ByteArray) (A : Option Addr) (c : Nat) (K : Option Addr) (kc : Nat), cs 0 = some (.int .i64 a.kind) ∧ cs 1 = some (.string s) ∧ cs 2 = some (.string t) ∧ cs 3 = some (.slice A a.b.length c) ∧ cs 4 = some (.int .i64 a.n) ∧ cs 5 = some (.slice K a.ks.length kc) ∧
    s.data.toList = a.nm ∧ t.data.toList = a.ton ∧ s.size ≤ maxLen ∧ t.size ≤ maxLen ∧ Arg w tag A c a.b ∧ Kp w tag K kc a.ks ∧ a.b.length ≤ maxLen ∧ a.ks.length ≤ maxLen ∧ a.n ≤ 9223372036854775807
/-- A row of acts in memory, outside the disk. -/
def Acts (w : World) (tag : Tags) (A : Option Addr) (l : List DAct) : Prop :=
  ∀ i (h : i < l.length), ∃ ad, A = some ad ∧ ad.block < w.heap.size ∧ tag ad.block = none ∧ ActV w tag (fun j => w.cell? (ad.add (i * 6 + j))) l[i]
theorem add_block (a : Addr) (j : Nat) : (a.add j).block = a.block := by unfold Addr.add; split <;> rfl
theorem Acts.turn {w w' : World} {tag tag' : Tags} {A : Option Addr} {l : List DAct} (h : Acts w tag A l) (hT : Turn w w' tag tag') : Acts w' tag' A l := by
  intro i hi
  obtain ⟨ad, e, h1, h2, ⟨s, t, B, c, K, kc, c0, c1, c2, c3, c4, c5, es, et, hs, ht, hA, hK, hb, hk, hn⟩⟩ := h i hi
  have hc : ∀ j v, w.cell? (ad.add (i * 6 + j)) = some v → w'.cell? (ad.add (i * 6 + j)) = some v := fun j v hv => (hT.cell (by rw [add_block]; exact h1) (by rw [add_block]; exact h2)).trans hv
  exact ⟨ad, e, Nat.lt_of_lt_of_le h1 hT.size, hT.tags _ h1 h2, ⟨s, t, B, c, K, kc, hc _ _ c0, hc _ _ c1, hc _ _ c2, hc _ _ c3, hc _ _ c4, hc _ _ c5, es, et, hs, ht, hA.turn hT, hK.turn hT, hb, hk, hn⟩⟩
set_option maxHeartbeats 8000000 in
theorem do_ok (w : World) (tag : Tags) (p : Nat) (st : St) (h : Dsk Try.prog w tag p st) (a : DAct) (s t : ByteArray) (A : Option Addr) (c : Nat) (K : Option Addr) (kc : Nat) (hnm : s.data.toList = a.nm) (hto : t.data.toList = a.ton) (hs : s.size ≤ maxLen) (ht : t.size ≤ maxLen) (hA : Arg w tag A c a.b) (hK : Kp w tag K kc a.ks) (hb : a.b.length ≤ maxLen) (hk : a.ks.length ≤ maxLen) (hn : a.n ≤ 9223372036854775807) (hb1 : a.b.length ≤ 1099511627776) :
    Calls Try.prog 18 #[.pointer (some ⟨p, 0, none⟩), .agg #[.int .i64 a.kind, .string s, .string t, .slice A a.b.length c, .int .i64 a.n, .slice K a.ks.length kc]] w fun e w' => ∃ tag', e = .returned (.int .i64 (act st a).1) ∧ Dsk Try.prog w' tag' p (act st a).2 ∧ Turn w w' tag tag' := by
  have hal := below_alloc (Below.refl w.heap.size w) (.cells #[.int .i64 a.kind, .string s, .string t, .slice A a.b.length c, .int .i64 a.n, .slice K a.ks.length kc] 42)
  have hbk := heap_alloc_new w (.cells #[.int .i64 a.kind, .string s, .string t, .slice A a.b.length c, .int .i64 a.n, .slice K a.ks.length kc] 42)
  have h2 := Dsk.below h hal
  have hA2 := hA.turn (Turn.below (tag := tag) hal)
  have hK2 := hK.turn (Turn.below (tag := tag) hal)
  have d0 := (blk_cell hbk 0).trans rfl
  have d1 := (blk_cell hbk 1).trans rfl
  have d2 := (blk_cell hbk 2).trans rfl
  have d3 := (blk_cell hbk 3).trans rfl
  have d4 := (blk_cell hbk 4).trans rfl
  have d5 := (blk_cell hbk 5).trans rfl
  have H := Aside0.mk h2
  have HA := Aside0.mk hA2
  have HK := Aside0.mk hK2
  have T := Aside0.mk (Turn.below (tag := tag) hal)
  have hkl : a.ks.length ≤ 9223372036854775807 := by unfold maxLen at hk; omega
  obtain ⟨kind, nm, ton, b, n, ks⟩ := a
  simp only at *
  subst hnm
  subst hto
  unfold act
  simp only
  clear h hal hbk h2 hA2 hK2 hA hK
  by_cases k01 : kind = 0 ∨ kind = 1
  · rw [if_pos k01]
    rcases k01 with rfl | rfl
    · skip
      have HG := Aside0.mk (Append_ok _ _ _ _ H.out s hs A b c HA.out hb1)
      generalize append st s.data.toList b = r at HG ⊢
      go_enter Try.func18, Try.ntmps18
      go_wp2_with (go_at_call 9; (with_reducible refine HG.out.mono ?_); rintro e w1 ⟨tag', rfl, h1, t1⟩; have H1 := Aside0.mk h1; have T1 := Aside0.mk t1; clear h1 t1)
      go_ret
      exact ⟨tag', rfl, H1.out, T.out.trans T1.out⟩
    · skip
      have HG := Aside0.mk (Append_ok _ _ _ _ H.out s hs A b c HA.out hb1)
      generalize append st s.data.toList b = r at HG ⊢
      go_enter Try.func18, Try.ntmps18
      go_wp2_with (go_at_call 9; (with_reducible refine HG.out.mono ?_); rintro e w1 ⟨tag', rfl, h1, t1⟩; have H1 := Aside0.mk h1; have T1 := Aside0.mk t1; clear h1 t1)
      go_ret
      exact ⟨tag', rfl, H1.out, T.out.trans T1.out⟩
  rw [if_neg k01]
  have k0 : ¬ kind = 0 := fun e => k01 (.inl e)
  have k1 : ¬ kind = 1 := fun e => k01 (.inr e)
  clear k01
  by_cases k2 : kind = 2
  · rw [if_pos k2]
    subst k2
    have HG := Aside0.mk (Sync_ok _ _ _ _ H.out s hs)
    generalize sync st s.data.toList = r at HG ⊢
    go_enter Try.func18, Try.ntmps18
    go_wp2_with (go_at_call 10; (with_reducible refine HG.out.mono ?_); rintro e w1 ⟨rfl, h1, t1⟩; have H1 := Aside0.mk h1; have T1 := Aside0.mk t1; clear h1 t1)
    go_ret
    exact ⟨tag, rfl, H1.out, T.out.trans T1.out⟩
  rw [if_neg k2]
  by_cases k3 : kind = 3
  · rw [if_pos k3]
    subst k3
    have HG := Aside0.mk (Rename_ok _ _ _ _ H.out s t hs ht)
    generalize rename st s.data.toList t.data.toList = r at HG ⊢
    go_enter Try.func18, Try.ntmps18
    go_wp2_with (go_at_call 19; (with_reducible refine HG.out.mono ?_); rintro e w1 ⟨tag', rfl, h1, t1⟩; have H1 := Aside0.mk h1; have T1 := Aside0.mk t1; clear h1 t1)
    go_ret
    exact ⟨tag', rfl, H1.out, T.out.trans T1.out⟩
  rw [if_neg k3]
  by_cases k4 : kind = 4
  · rw [if_pos k4]
    subst k4
    have HG := Aside0.mk (Delete_ok _ _ _ _ H.out s hs)
    generalize delete st s.data.toList = r at HG ⊢
    go_enter Try.func18, Try.ntmps18
    go_wp2_with (go_at_call 20; (with_reducible refine HG.out.mono ?_); rintro e w1 ⟨rfl, h1, t1⟩; have H1 := Aside0.mk h1; have T1 := Aside0.mk t1; clear h1 t1)
    go_ret
    exact ⟨tag, rfl, H1.out, T.out.trans T1.out⟩
  rw [if_neg k4]
  by_cases k5 : kind = 5
  · rw [if_pos k5]
    subst k5
    have HG := Aside0.mk (Cut_ok _ _ _ _ H.out s hs n)
    generalize cut st s.data.toList n = r at HG ⊢
    go_enter Try.func18, Try.ntmps18
    go_wp2_with (go_at_call 21; (with_reducible refine HG.out.mono ?_); rintro e w1 ⟨rfl, h1, t1⟩; have H1 := Aside0.mk h1; have T1 := Aside0.mk t1; clear h1 t1)
    go_ret
    exact ⟨tag, rfl, H1.out, T.out.trans T1.out⟩
  rw [if_neg k5]
  by_cases k6 : kind = 6
  · rw [if_pos k6]
    subst k6
    have HG := Aside0.mk (Fuse_dsk _ _ _ _ H.out n hn)
    go_enter Try.func18, Try.ntmps18
    go_wp2_with (go_at_call 11; (with_reducible refine HG.out.mono ?_); rintro e w1 ⟨rfl, h1, t1⟩; have H1 := Aside0.mk h1; have T1 := Aside0.mk t1; clear h1 t1)
    go_ret
    exact ⟨tag, rfl, H1.out, T.out.trans T1.out⟩
  rw [if_neg k6]
  by_cases k7 : kind = 7
  · rw [if_pos k7]
    subst k7
    have HG := Aside0.mk (Boot_ok _ _ _ _ H.out K kc ks hkl HK.out)
    generalize boot st ks = r at HG ⊢
    go_enter Try.func18, Try.ntmps18
    go_wp2_with (go_at_call 12; (with_reducible refine HG.out.mono ?_); rintro e w1 ⟨rfl, h1, t1⟩; have H1 := Aside0.mk h1; have T1 := Aside0.mk t1; clear h1 t1)
    go_ret
    exact ⟨tag, rfl, H1.out, T.out.trans T1.out⟩
  rw [if_neg k7]
  go_enter Try.func18, Try.ntmps18
  go_wp2
  go_ret
  exact ⟨tag, rfl, H.out, T.out⟩
end Go.Proofs.Ytcblcffkppiclaa.Dk
