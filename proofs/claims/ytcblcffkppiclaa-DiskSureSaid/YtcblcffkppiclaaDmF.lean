/- A slice of structs of one-cell fields that came in: each field's cell (after the guide's page on structs). The law DiskRoom's walk. What came in, opened: rows of acts, rows of bytes, rows of numbers. What stays through a power failure: plain facts. estreatref01.Same: are two lists one? -/
import Derived.Deep.Slices
import Derived.Deep.Fields
import Derived.ChangeSame
import Derived.Test.YtcblcffkppiclaaDmE
import Derived.OpenShut
import Derived.Test.YtcblcffkppiclaaPDiskNilx7
namespace Go.Proofs.Ytcblcffkppiclaa.Slf
open Go.ChangeShapes Go.WideShapes Go.Deep
section
variable {H : Type} {enc : TypeId × Value → H} {P : Program} {w : World} {base : Nat} {spare : Nat → Bool} {held : Bool}
theorem open_slice_fields {t e : TypeId} {fs : Array Field} {fuel : Nat} {cs : List Value} {x : DataW H × List MemPlace} (ht : P.underlying t = some (.slice e)) (he : P.underlying e = some (.struct fs))
    (hone : oneCellFields P fs = true) (hC : P.cellsOf e = fs.size) (h : DataW.trod enc P w base spare held fuel t cs = some x) :
    (cs = [.slice none 0 0] ∧ x = (.nil, [])) ∨
    ∃ (a : Addr) (len cap m : Nat) (D : Nat → DataW H) (Pl : Nat → List MemPlace), cs = [.slice (some a) len cap] ∧ base ≤ a.block ∧ len ≤ cap ∧ cap ≤ maxLen ∧ m = (if spare a.block then cap else len) ∧
      x = (.slice ((List.range len).map D) ((List.range (m - len)).map fun j => D (len + j)), MemPlace.row a (m * fs.size) ++ (List.range m).flatMap Pl) ∧
      ∀ i, i < m → ∃ (ys : List (DataW H × List MemPlace)) (n : Nat), D i = .agg (ys.map (·.1)) ∧ Pl i = ys.flatMap (·.2) ∧ ys.length = fs.size ∧
        ∀ (j : Nat) (f : Field), fs[j]? = some f → ∃ (v : Value) (y : DataW H × List MemPlace), w.cell? (a.add (i * fs.size + j)) = some v ∧ ys[j]? = some y ∧ DataW.trod enc P w base spare held n f.type [v] = some y := by
  rcases open_slice ht h with h0 | ⟨a, len, cap, m, n, D, Pl, hcs, hb, hl, hm, hmm, hx, hi⟩
  · exact .inl h0
  · refine .inr ⟨a, len, cap, m, D, Pl, hcs, hb, hl, hm, hmm, by rw [hC] at hx; exact hx, fun i him => ?_⟩
    obtain ⟨cs', hc, ht'⟩ := hi i him
    rw [hC] at hc
    obtain ⟨ys, n', hn', hy, hlen, hyl, hf⟩ := DataW.trod_struct he ht'
    obtain ⟨_, hcl, hat⟩ := World.cells?_some hc
    simp only [Prod.mk.injEq] at hy
    refine ⟨ys, n', hy.1, hy.2, hyl, fun j f hj => ?_⟩
    obtain ⟨ho, hk⟩ := hone_of hone j f hj
    have hjl : j < fs.size := (Array.getElem?_eq_some_iff.1 hj).1
    have hcell := hat j hjl
    have hv : cs'[j]? = some (cs'[j]'(by omega)) := List.getElem?_eq_getElem (by omega)
    have h1 := hf j f hj
    rw [ho, hk] at h1
    have hone' : (cs'.drop j).take 1 = [cs'[j]'(by omega)] := by
      rw [List.drop_eq_getElem_cons (by omega)]
      rfl
    rw [hone'] at h1
    have hys : ys[j]? = some (ys[j]'(by omega)) := List.getElem?_eq_getElem (by omega)
    refine ⟨_, _, ?_, hys, h1.trans hys⟩
    rw [← Go.Deep.add_add, hcell, hv]
end
end Go.Proofs.Ytcblcffkppiclaa.Slf
namespace Go.Proofs.Ytcblcffkppiclaa.Dk
open Go.RowKit Go.Maps Go.Sort Go.Proofs.Ytcblcffkppiclaa.DkMap Go.Proofs.YtcblcffkppiclaaW.PrintWords Go.Proofs.YtcblcffkppiclaaW.PrintLast Go.Proofs.YtcblcffkppiclaaW.PrintMore Go.Proofs.Ytcblcffkppiclaa.PDiskNil
attribute [local go_sem] max2_int min2_int max_two min_two max_three min_three max_four min_four
set_option linter.unusedVariables false
set_option linter.unusedSimpArgs false
set_option linter.unusedSectionVars false
def usedOf (s : St) : Int := if s.down = true then 0 else (used s.fl : Int)
theorem used_dsk (w : World) (tag : Tags) (p : Nat) (st : St) (h : Dsk Try.prog w tag p st) : Calls Try.prog 17 #[.pointer (some ⟨p, 0, none⟩)] w fun e w' => e = .returned (.int .i64 (usedOf st)) ∧ w = w' := by
  obtain ⟨_, M, D, F, h⟩ := h
  exact Used_ok w tag p M D F _ st h
theorem putb_full (s : St) (n : List UInt8) (b : List Int) (h : (putb s n b).1 = 7) : (putb s n b).2 = s := by
  unfold putb at h ⊢
  split at h
  · cases h
  · split at h
    · cases h
    · split at h
      · rename_i h1 h2 h3; rw [if_neg h1, if_neg h2, if_pos h3]
      · cases h
theorem append_full (s : St) (n : List UInt8) (b : List Int) (h : (append s n b).1 = 7) : (append s n b).2 = burn s ∧ s.down = false := by
  unfold append at h ⊢
  split at h
  · cases h
  · split at h
    · cases h
    · rename_i h1 h2
      rw [if_neg h1, if_neg h2, putb_full _ _ _ h]
      exact ⟨rfl, by simpa using h1⟩
theorem deed_full (s : St) (n : List UInt8) (K : St → Fi → Int × St) (hK : ∀ s f, (K s f).1 ≠ 7) : (deed s n K).1 ≠ 7 := by
  unfold deed
  split
  · intro h; cases h
  · split
    · intro h; cases h
    · split
      · intro h; cases h
      · split
        · intro h; cases h
        · exact hK _ _
theorem act_full (s : St) (a : DAct) (h : (act s a).1 = 7) : usedOf (act s a).2 = usedOf s := by
  unfold act at h ⊢
  split at h
  · rename_i h1
    rw [if_pos h1]
    obtain ⟨e, hd⟩ := append_full _ _ _ h
    rw [e]
    unfold usedOf
    rw [burn_fl, burn_down]
  · exfalso
    split at h
    · refine deed_full s a.nm _ (fun _ _ => ?_) h
      simp
    · split at h
      · refine deed_full s a.nm _ (fun _ _ => ?_) h
        split
        · simp
        · split <;> simp
      · split at h
        · refine deed_full s a.nm _ (fun _ _ => ?_) h
          simp
        · split at h
          · refine deed_full s a.nm _ (fun _ _ => ?_) h
            split <;> simp
          · split at h
            · cases h
            · split at h <;> cases h
theorem append_room (s : St) (n : List UInt8) (b : List Int) : (append s n b).2.room = s.room := by
  have hp : ∀ s : St, (putb s n b).2.room = s.room := by
    intro s
    unfold putb
    split
    · rfl
    · split
      · rfl
      · split <;> rfl
  unfold append
  split
  · rfl
  · split
    · show (putb (burn s) n b).2.room = _; rw [hp, burn_room]
    · rw [hp, burn_room]
theorem deed_room (s : St) (n : List UInt8) (K : St → Fi → Int × St) (hK : ∀ s f, (K s f).2.room = s.room) : (deed s n K).2.room = s.room := by
  unfold deed
  split
  · rfl
  · split
    · rfl
    · split
      · exact burn_room s
      · split
        · exact burn_room s
        · rw [hK, burn_room]
theorem act_room (s : St) (a : DAct) : (act s a).2.room = s.room := by
  unfold act
  split
  · exact append_room _ _ _
  · split
    · exact deed_room _ _ _ (fun _ _ => rfl)
    · split
      · refine deed_room _ _ _ (fun _ _ => ?_)
        split
        · rfl
        · split <;> rfl
      · split
        · exact deed_room _ _ _ (fun _ _ => rfl)
        · split
          · refine deed_room _ _ _ (fun _ _ => ?_)
            split <;> rfl
          · split
            · rfl
            · split <;> rfl
theorem usedOf_le {w : World} {tag : Tags} {p : Nat} {s : St} (h : Dsk Try.prog w tag p s) : usedOf s ≤ s.room := by
  have := h.1.fits
  unfold usedOf
  split <;> omega
set_option maxHeartbeats 8000000 in
theorem DiskRoom_ok (r : Int) (A : Option Addr) (l : List DAct) (c : Nat) (w : World) (hr0 : 0 ≤ r) (hr1 : r ≤ 255) (hA : Acts w noTag A l) (hl : l.length ≤ maxLen) :
    Calls Try.prog 4 #[.int .u8 r, .slice A l.length c] w fun e w' => e = .returned (.bool true) ∧ Below w.heap.size w w' := by
  obtain ⟨R, rfl⟩ := Int.eq_ofNat_of_zero_le hr0
  have hN := Aside0.mk (New_ok w R (by omega))
  have hG := Aside0.mk (great_ok w noTag A l c hA hl)
  have HA := Aside0.mk hA
  have hwr : IntKind.i64.wrap (R : Int) = (R : Int) := (IntKind.wrap_i64 _).trans (by omega)
  clear hA
  go_enter Try.func4, Try.ntmps4
  go_wp2_with (first
    | (go_at_call 16; (with_reducible refine hG.out.mono ?_); rintro e w1 ⟨⟨g, rfl, hg⟩, rfl⟩; have HG := Aside0.mk hg; clear hg; cases g)
    | (go_at_call 7; (with_reducible refine (awake_ok _).mono ?_); rintro e w2 ⟨rfl, t2⟩)
    | (go_at_call 8; (with_reducible refine hN.out.mono ?_); rintro e w3 ⟨p, tag, rfl, h3, t3⟩; have H3 := Aside0.mk h3; have T3 := Aside0.mk t3; clear h3 t3))
  rotate_left
  · go_ret
    exact ⟨rfl, t2⟩
  · have hS := HG.out (by trivial)
    have HS := Aside0.mk hS.2
    have hl60 := hS.1
    have HA3 := Aside0.mk (HA.out.turn T3.out)
    clear HG hS hG hN HA
    go_loopw [6] (fun k wr => ∃ (j : Nat) (st : St) (tg : Tags), j ≤ l.length ∧ k = .int .i64 j ∧ st.room = R ∧ Aside0 (Dsk Try.prog wr tg p st) ∧ Aside0 (Acts wr tg A l) ∧ Aside0 (Turn w1 wr noTag tg)) (fun k _ => l.length - (intOf k).toNat)
    case atStart => exact ⟨0, _, tag, Nat.zero_le _, rfl, rfl, H3, HA3, T3⟩
    case round =>
      obtain ⟨j, st, tg, hj, rfl, hrm, hD, hAc, hT⟩ := hrel
      by_cases hlt : j < l.length
      · obtain ⟨ad, rfl, hbk, htn, ⟨s, t, B, cb, K, kc, c0, c1, c2, c3, c4, c5, es, et, hs, ht', hAA, hKK, hbl, hkl, hn⟩⟩ := hAc.out j hlt
        have hsm := (HS.out j hlt).b
        have HD := Aside0.mk (do_ok wr tg p st hD.out l[j] s t B cb K kc es et hs ht' hAA hKK hbl hkl hn (by omega))
        have q0 : wr.cell? (ad.add (j * 6)) = some (.int .i64 l[j].kind) := c0
        have q3 : wr.cell? ⟨(ad.add (j * 6)).block, (ad.add (j * 6)).off + 3, none⟩ = some (.slice B l[j].b.length cb) := by rw [add_field ad (j * 6) 2]; exact c3
        have q4 : wr.cell? ⟨(ad.add (j * 6)).block, (ad.add (j * 6)).off + 4, none⟩ = some (.int .i64 l[j].n) := by rw [add_field ad (j * 6) 3]; exact c4
        have q5 : wr.cell? ⟨(ad.add (j * 6)).block, (ad.add (j * 6)).off + 5, none⟩ = some (.slice K l[j].ks.length kc) := by rw [add_field ad (j * 6) 4]; exact c5
        have q1 : wr.cell? ⟨(ad.add (j * 6)).block, (ad.add (j * 6)).off + 1, none⟩ = some (.string s) := by rw [add_field ad (j * 6) 0]; exact c1
        have q2 : wr.cell? ⟨(ad.add (j * 6)).block, (ad.add (j * 6)).off + 2, none⟩ = some (.string t) := by rw [add_field ad (j * 6) 1]; exact c2
        have hf7 := act_full st l[j]
        have hrm2 := act_room st l[j]
        rw [hrm] at hrm2
        generalize act st l[j] = r at HD hf7 hrm2
        obtain ⟨rn, st2⟩ := r
        simp only at HD hf7 hrm2
        clear c0 c1 c2 c3 c4 c5 es et hs ht' hAA hKK hbl hkl hn hsm
        have H0 := Aside0.mk hD.out
        have hlea : usedOf st2 ≤ st2.room → ¬ (R : Int) < usedOf st2 := by intro h; omega
        by_cases h7 : rn = 7
        · have hu := hf7 h7
          subst h7
          go_wp2_with (first
            | (go_at_call 17; (with_reducible refine (used_dsk _ _ _ _ H0.out).mono ?_); rintro e w4 ⟨rfl, rfl⟩; clear H0)
            | (go_at_call 18; (with_reducible refine HD.out.mono ?_); rintro e w5 ⟨tg2, rfl, h5, t5⟩; have hle := hlea (usedOf_le h5); have H5 := Aside0.mk h5; have T5 := Aside0.mk t5; clear h5 t5 HD)
            | (go_at_call 17; (with_reducible refine (used_dsk _ _ _ _ H5.out).mono ?_); rintro e w6 ⟨rfl, rfl⟩))
          exact ⟨⟨j + 1, st2, tg2, by omega, rfl, hrm2, H5, ⟨hAc.out.turn T5.out⟩, ⟨hT.out.trans T5.out⟩⟩, by simp [intOf]; omega⟩
        · go_wp2_with (first
            | (go_at_call 17; (with_reducible refine (used_dsk _ _ _ _ H0.out).mono ?_); rintro e w4 ⟨rfl, rfl⟩; clear H0)
            | (go_at_call 18; (with_reducible refine HD.out.mono ?_); rintro e w5 ⟨tg2, rfl, h5, t5⟩; have hle := hlea (usedOf_le h5); have H5 := Aside0.mk h5; have T5 := Aside0.mk t5; clear h5 t5 HD)
            | (go_at_call 17; (with_reducible refine (used_dsk _ _ _ _ H5.out).mono ?_); rintro e w6 ⟨rfl, rfl⟩))
          exact ⟨⟨j + 1, st2, tg2, by omega, rfl, hrm2, H5, ⟨hAc.out.turn T5.out⟩, ⟨hT.out.trans T5.out⟩⟩, by simp [intOf]; omega⟩
      · have hB := Aside0.mk hT.out.noBelow
        go_wp2_with (go_at_call 7; (with_reducible refine (awake_ok _).mono ?_); rintro e w2 ⟨rfl, t2⟩)
        go_ret
        exact ⟨rfl, below_step hB.out t2⟩
end Go.Proofs.Ytcblcffkppiclaa.Dk
namespace Go.Proofs.Ytcblcffkppiclaa.Dk
open Go.RowKit Go.Maps Go.Proofs.Ytcblcffkppiclaa.DkMap Go.ChangeShapes Go.WideShapes Go.Deep
set_option linter.unusedVariables false
set_option linter.unusedSimpArgs false
theorem pick_list {α : Type} {n : Nat} {P : Nat → α → Prop} (h : ∀ i, i < n → ∃ x, P i x) : ∃ l : List α, l.length = n ∧ ∀ i (hi : i < l.length), P i l[i] := by
  induction n with
  | zero => exact ⟨[], rfl, fun i hi => absurd hi (by simp)⟩
  | succ n ih =>
    obtain ⟨l, hl, hP⟩ := ih (fun i hi => h i (by omega))
    obtain ⟨x, hx⟩ := h n (by omega)
    refine ⟨l ++ [x], by simp [hl], fun i hi => ?_⟩
    by_cases e : i < l.length
    · rw [List.getElem_append_left e]; exact hP i e
    · have e2 : i = n := by simp at hi; omega
      subst e2
      rw [List.getElem_append_right (by omega)]
      simpa [hl] using hx
theorem cell_lt {W : World} {p : Addr} {v : Value} (h : W.cell? p = some v) : p.block < W.heap.size := by
  apply Classical.byContradiction
  intro hn
  have : W.heap[p.block]? = none := by simp; omega
  simp [World.cell?, this] at h
section
variable {H : Type} {enc : TypeId × Value → H} {W : World}
theorem open_bytes {fuel : Nat} {v : Value} {x : DataW H × List MemPlace} (h : DataW.trod enc Try.prog W 0 (fun _ => true) true fuel 26 [v] = some x) : ∃ A c b, v = .slice A (List.length b) c ∧ Arg W noTag A c b ∧ b.length ≤ maxLen ∧ ∀ n ∈ b, 0 ≤ n ∧ n ≤ 255 := by
  rcases open_ints Try.underlying26 Try.underlying5 (by kernel_rfl) h with ⟨hcs, _⟩ | ⟨a, len, cap, zs, hcs, _, hl, hm, hz, _, hcell, hwz⟩
  · simp at hcs
    subst hcs
    exact ⟨none, 0, [], rfl, ⟨fun _ => ⟨rfl, rfl⟩, fun _ e => (by cases e), fun _ e => (by cases e)⟩, Nat.zero_le _, fun _ h => (by cases h)⟩
  · simp at hcs
    subst hcs
    have hz' : zs.length = cap := by simpa using hz
    have hlen : (zs.take len).length = len := by rw [List.length_take]; omega
    have hc : ∀ j u, (zs.take len)[j]? = some u → W.cell? (a.add j) = some (.int .u8 u) := by
      intro j u hj
      rw [List.getElem?_take] at hj
      split at hj
      · rw [hcell j (by omega), List.getD_eq_getElem?_getD, hj]; rfl
      · cases hj
    refine ⟨some a, cap, zs.take len, by rw [hlen], ⟨fun e => (by cases e), fun ad e => ?_, fun ad e hp => ?_⟩, by omega, fun n hn => bounds_u8 (hwz n (List.mem_of_mem_take hn))⟩
    · injection e with e; subst e; exact hc
    · injection e with e
      subst e
      have := cell_lt (hc 0 ((zs.take len)[0]'hp) (List.getElem?_eq_getElem hp))
      exact ⟨by simpa [Addr.add] using this, rfl⟩
theorem open_nums {fuel : Nat} {v : Value} {x : DataW H × List MemPlace} (h : DataW.trod enc Try.prog W 0 (fun _ => true) true fuel 32 [v] = some x) : ∃ A c b, v = .slice A (List.length b) c ∧ Kp W noTag A c b ∧ b.length ≤ maxLen := by
  rcases open_ints Try.underlying32 Try.underlying3 (by kernel_rfl) h with ⟨hcs, _⟩ | ⟨a, len, cap, zs, hcs, _, hl, hm, hz, _, hcell, hwz⟩
  · simp at hcs
    subst hcs
    exact ⟨none, 0, [], rfl, ⟨Nat.le_refl _, fun h => absurd h (by simp)⟩, Nat.zero_le _⟩
  · simp at hcs
    subst hcs
    have hz' : zs.length = cap := by simpa using hz
    have hlen : (zs.take len).length = len := by rw [List.length_take]; omega
    refine ⟨some a, cap, zs.take len, by rw [hlen], ⟨by omega, fun hp => ⟨a, rfl, ?_, rfl, fun j hj => ?_⟩⟩, by omega⟩
    · have := cell_lt (hcell 0 (by omega))
      simpa [Addr.add] using this
    · rw [hcell j (by omega)]
      congr 2
      rw [List.getD_eq_getElem?_getD, List.getD_eq_getElem?_getD, List.getElem?_take, if_pos (by omega)]
theorem open_acts {a : Option Addr} {len cap : Nat} {d : DataW H} {p : List MemPlace} (h : DataW.Trod enc Try.prog W 0 (fun _ => true) true 37 (.slice a len cap) d p) : ∃ l : List DAct, l.length = len ∧ Acts W noTag a l ∧ l.length ≤ maxLen := by
  obtain ⟨fuel, hf⟩ := h
  rcases Slf.open_slice_fields Try.underlying37 Try.underlying42 (by kernel_rfl) (by kernel_rfl) hf with ⟨hcs, _⟩ | ⟨ad, len', cap', m, D, Pl, hcs, _, hl, hm, hmm, _, hi⟩
  · simp [Value.cells] at hcs
    obtain ⟨rfl, rfl, rfl⟩ := hcs
    exact ⟨[], rfl, fun i hi => absurd hi (by simp), Nat.zero_le _⟩
  · simp [Value.cells] at hcs
    obtain ⟨rfl, rfl, rfl⟩ := hcs
    have hex : ∀ i, i < len → ∃ x : DAct, ad.block < W.heap.size ∧ ActV W noTag (fun j => W.cell? (ad.add (i * 6 + j))) x := by
      intro i hi2
      have him : i < m := by rw [hmm]; split <;> omega
      obtain ⟨ys, n, _, _, _, hf2⟩ := hi i him
      obtain ⟨u0, y0, hc0, _, ht0⟩ := hf2 0 _ rfl
      obtain ⟨u1, y1, hc1, _, ht1⟩ := hf2 1 _ rfl
      obtain ⟨u2, y2, hc2, _, ht2⟩ := hf2 2 _ rfl
      obtain ⟨u3, y3, hc3, _, ht3⟩ := hf2 3 _ rfl
      obtain ⟨u4, y4, hc4, _, ht4⟩ := hf2 4 _ rfl
      obtain ⟨u5, y5, hc5, _, ht5⟩ := hf2 5 _ rfl
      obtain ⟨x0, e0, _, wx0⟩ := DataW.trod_int Try.underlying3 ht0
      obtain ⟨x4, e4, _, wx4⟩ := DataW.trod_int Try.underlying3 ht4
      obtain ⟨s1, e1, _, ws1⟩ := DataW.trod_string Try.underlying9 ht1
      obtain ⟨s2, e2, _, ws2⟩ := DataW.trod_string Try.underlying9 ht2
      obtain ⟨A, c, b, rfl, hA, hbl, _⟩ := open_bytes ht3
      obtain ⟨K, kc, ks, rfl, hK, hkl⟩ := open_nums ht5
      simp at e0 e4 e1 e2
      subst e0 e4 e1 e2
      have hc0' : W.cell? (ad.add (i * 6 + 0)) = some (.int .i64 x0) := hc0
      refine ⟨⟨x0, s1.data.toList, s2.data.toList, b, x4, ks⟩, ?_, ⟨s1, s2, A, c, K, kc, hc0, hc1, hc2, hc3, hc4, hc5, rfl, rfl, ws1, ws2, hA, hK, hbl, hkl, (bounds_i64 wx4).2⟩⟩
      have := cell_lt hc0'
      rwa [add_block] at this
    obtain ⟨l, hl2, hP⟩ := pick_list hex
    exact ⟨l, hl2, fun i hi => ⟨ad, rfl, (hP i hi).1, rfl, (hP i hi).2⟩, by omega⟩
theorem DiskRoom_row (r : Int) (A : Option Addr) (l : List DAct) (c : Nat) (w : World) (hr : (Lit.int .u8 r).wf = true) (hA : Acts w noTag A l ∧ l.length ≤ maxLen) :
    Calls Try.prog 4 #[.int .u8 r, .slice A l.length c] w fun e w' => e = .returned (.bool true) ∧ Below w.heap.size w w' := DiskRoom_ok r A l c w (bounds_u8 hr).1 (bounds_u8 hr).2 hA.1 hA.2
end
end Go.Proofs.Ytcblcffkppiclaa.Dk
namespace Go.Proofs.Ytcblcffkppiclaa.Dk
set_option linter.unusedVariables false
set_option linter.unusedSimpArgs false
/-! All files have names. -/
def Named (fl : Fl) : Prop := ∀ s, s ∈ keys fl → isName s = true
theorem Named.put {fl : Fl} (h : Named fl) {n : List UInt8} (x : Fi) (hn : isName n = true) : Named (put fl n x) := by
  intro s hs
  rw [keys_put] at hs
  split at hs
  · exact h s hs
  · rw [List.mem_append, List.mem_singleton] at hs
    rcases hs with hs | rfl
    · exact h s hs
    · exact hn
theorem Named.del {fl : Fl} (h : Named fl) (n : List UInt8) : Named (del fl n) := by
  intro s hs
  rw [keys_del] at hs
  exact h s (List.mem_of_mem_erase hs)
theorem Named.get {fl : Fl} (h : Named fl) {s : List UInt8} {x : Fi} (hx : get fl s = some x) : isName s = true := h s ((mem_keys _ _).2 (by rw [hx]; rfl))
theorem Named.putb {s : St} (h : Named s.fl) (n : List UInt8) (b : List Int) : Named (putb s n b).2.fl := by
  unfold Dk.putb
  split
  · exact h
  · rename_i hn
    split
    · exact h
    · split
      · exact h
      · exact h.put _ (by simpa using hn)
theorem Named.append {s : St} (h : Named s.fl) (n : List UInt8) (b : List Int) : Named (append s n b).2.fl := by
  have h2 : Named (burn s).fl := by rw [burn_fl]; exact h
  unfold Dk.append
  split
  · exact h
  · split
    · exact h2.putb n b
    · exact h2.putb n b
theorem Named.deed {s : St} (h : Named s.fl) (n : List UInt8) (K : St → Fi → Int × St) (hK : ∀ s f, Named s.fl → isName n = true → Named (K s f).2.fl) : Named (deed s n K).2.fl := by
  have h2 : Named (burn s).fl := by rw [burn_fl]; exact h
  unfold Dk.deed
  split
  · exact h
  · split
    · exact h
    · split
      · exact h2
      · rename_i hn
        split
        · exact h2
        · exact hK _ _ h2 (by simpa using hn)
theorem Named.bootL : ∀ (ns : List (List UInt8)) {fl : Fl} (ks : List Int), Named fl → Named (bootL ns fl ks)
  | [], fl, ks, h => h
  | s :: r, fl, ks, h => by
    cases hg : Dk.get fl s with
    | none => rw [Dk.bootL, hg]; exact Named.bootL r ks h
    | some x =>
      by_cases hc : x.sure < x.b.length ∧ 0 < ks.length
      · rw [bootL_yes hg hc]; exact Named.bootL r _ (h.put _ (h.get hg))
      · rw [bootL_no hg hc]; exact Named.bootL r _ (h.put _ (h.get hg))
theorem act_named {s : St} (h : Named s.fl) (a : DAct) : Named (act s a).2.fl := by
  unfold act
  split
  · exact h.append _ _
  · split
    · exact h.deed _ _ (fun _ _ h hn => h.put _ hn)
    · split
      · refine h.deed _ _ (fun s f h hn => ?_)
        split
        · exact h
        · rename_i ht
          split
          · exact h
          · exact ((h.del _).del _).put _ (by simpa using ht)
      · split
        · exact h.deed _ _ (fun _ _ h hn => h.del _)
        · split
          · refine h.deed _ _ (fun s f h hn => ?_)
            split
            · exact h
            · exact h.put _ hn
          · split
            · exact h
            · split
              · exact Named.bootL _ _ h
              · exact h
/-! Synced files stay. -/
theorem put_self {fl : Fl} {s : List UInt8} {x : Fi} (h : get fl s = some x) : put fl s x = fl := by
  induction fl with
  | nil => cases h
  | cons a r ih =>
    obtain ⟨k, y⟩ := a
    unfold get at h
    unfold put
    by_cases e : k = s
    · rw [if_pos e] at h ⊢; injection h with h; rw [h, e]
    · rw [if_neg e] at h ⊢; rw [ih h]
theorem bootL_sure {fl : Fl} (h : ∀ s x, get fl s = some x → x.sure = x.b.length) : ∀ (ns : List (List UInt8)) (ks : List Int), bootL ns fl ks = fl
  | [], _ => rfl
  | s :: r, ks => by
    cases hg : get fl s with
    | none => rw [bootL, hg]; exact bootL_sure h r ks
    | some x =>
      have hx := h s x hg
      rw [bootL_no hg (by omega)]
      have e : (⟨x.b, x.b.length⟩ : Fi) = x := by cases x; simp at hx; simp [hx]
      rw [e, put_self hg]
      exact bootL_sure h r ks
structure SyncRel (fl0 fl : Fl) (done : List (List UInt8)) : Prop where
  keys : keys fl = keys fl0
  used : used fl = used fl0
  rel : ∀ s x, get fl0 s = some x → ∃ y, get fl s = some y ∧ y.b = x.b ∧ (s ∈ done → y.sure = y.b.length)
theorem SyncRel.refl (fl : Fl) : SyncRel fl fl [] := ⟨rfl, rfl, fun s x h => ⟨x, h, rfl, fun h => by cases h⟩⟩
theorem SyncRel.step {fl0 fl : Fl} {done : List (List UInt8)} (h : SyncRel fl0 fl done) {n : List UInt8} {y : Fi} (hy : get fl n = some y) : SyncRel fl0 (put fl n ⟨y.b, y.b.length⟩) (done ++ [n]) := by
  refine ⟨?_, ?_, fun s x hx => ?_⟩
  · rw [keys_put, if_pos ((mem_keys _ _).2 (by rw [hy]; rfl)), h.keys]
  · have := used_put fl n ⟨y.b, y.b.length⟩
    rw [hy] at this
    simp at this
    rw [this, h.used]
  · obtain ⟨z, hz, hb, hs⟩ := h.rel s x hx
    by_cases e : s = n
    · subst e
      rw [hy] at hz
      injection hz with hz
      subst hz
      exact ⟨⟨y.b, y.b.length⟩, by rw [get_put, if_pos rfl], hb, fun _ => rfl⟩
    · refine ⟨z, by rw [get_put, if_neg e]; exact hz, hb, fun hm => hs ?_⟩
      rw [List.mem_append, List.mem_singleton] at hm
      exact hm.resolve_right e
theorem SyncRel.names {fl0 fl : Fl} {done : List (List UInt8)} (h : SyncRel fl0 fl done) : names fl = names fl0 := by unfold Dk.names; rw [h.keys]
theorem SyncRel.sure {fl0 fl : Fl} (h : SyncRel fl0 fl (Dk.names fl0)) : ∀ s y, get fl s = some y → y.sure = y.b.length := by
  intro s y hy
  have hm : s ∈ Dk.keys fl := (mem_keys _ _).2 (by rw [hy]; rfl)
  rw [h.keys] at hm
  have hs := (mem_keys _ _).1 hm
  obtain ⟨x, hx⟩ := Option.isSome_iff_exists.1 hs
  obtain ⟨z, hz, hb, hd⟩ := h.rel s x hx
  rw [hy] at hz
  injection hz with hz
  subst hz
  exact hd ((names_mem _ _).2 hs)
theorem boot_synced {s : St} {fl0 : Fl} (h : SyncRel fl0 s.fl (names fl0)) (ks : List Int) : boot s ks = { s with down := false, fuse := -1 } := by
  unfold boot
  rw [bootL_sure h.sure]
theorem read_eq {s : St} {n : List UInt8} {x : Fi} (hd : s.down = false) (hn : isName n = true) (hx : get s.fl n = some x) : read s n = (x.b, 0) := by
  unfold read
  rw [if_neg (by rw [hd]; simp), if_neg (by rw [hn]; simp), hx]
theorem sync_eq {s : St} {n : List UInt8} {x : Fi} (hd : s.down = false) (hf : s.fuse = -1) (hn : isName n = true) (hx : get s.fl n = some x) : sync s n = (0, { s with fl := put s.fl n ⟨x.b, x.b.length⟩ }) := by
  unfold sync
  rw [deed_eq hd (by unfold fails; rw [hf]; rfl) hn hx]
  have e : burn s = s := by unfold burn; rw [if_neg (by omega)]
  rw [e]
/-! A file that is synced, then put behind, then the power fails. -/
def nf : List UInt8 := [102]
theorem nf_name : isName nf = true := by decide
def one (x : Fi) : Fl := [(nf, x)]
theorem get_one (x : Fi) : get (one x) nf = some x := rfl
theorem put_one (x y : Fi) : put (one x) nf y = one y := by unfold one put; rw [if_pos rfl]
theorem put_nil (y : Fi) : put [] nf y = one y := rfl
theorem used_one (x : Fi) : used (one x) = x.b.length := by simp [used, one]
theorem names_one (x : Fi) : names (one x) = [nf] := by unfold names keys one; simp
theorem names_nil : names [] = [] := by unfold names keys; simp
theorem putb_nil {s : St} (hs : s.fl = []) (b : List Int) (hl : b.length ≤ s.room) : putb s nf b = (0, { s with fl := one ⟨b, 0⟩ }) := by
  unfold putb
  rw [if_neg (by rw [nf_name]; simp), if_neg (by rw [hs]; simp), if_neg (by rw [hs]; simp [used]; omega), hs]
  simp [get, put_nil]
theorem putb_one {s : St} {x : Fi} (hs : s.fl = one x) (b : List Int) (hl : x.b.length + b.length ≤ s.room) : putb s nf b = (0, { s with fl := one ⟨x.b ++ b, x.sure⟩ }) := by
  unfold putb
  rw [if_neg (by rw [nf_name]; simp), if_neg (by rw [hs, get_one]; simp), if_neg (by rw [hs, used_one]; omega), hs, get_one]
  simp [put_one]
/-- What the disk is like while bytes are put behind: A is synced, B is put behind. -/
structure TailInv (none0 : Prop) (A B : List Int) (s : St) : Prop where
  room : s.room = 5000
  fl : (s.fl = [] ∧ none0 ∧ A = [] ∧ (s.down = false → B = [])) ∨ ∃ P r, s.fl = one ⟨A ++ P, A.length⟩ ∧ B = P ++ r ∧ (s.down = false → r = [])
theorem TailInv.step {none0 : Prop} {A B : List Int} {s : St} (h : TailInv none0 A B s) (b : List Int) (hl : A.length + B.length + b.length ≤ 5000) : TailInv none0 A (B ++ b) (append s nf b).2 := by
  have hr := h.room
  unfold append
  by_cases hd : s.down = true
  · rw [if_pos hd]
    refine ⟨hr, ?_⟩
    rcases h.fl with ⟨h1, h2, h3, h4⟩ | ⟨P, r, h1, h2, h3⟩
    · exact .inl ⟨h1, h2, h3, fun e => by rw [hd] at e; cases e⟩
    · exact .inr ⟨P, r ++ b, h1, by rw [h2, List.append_assoc], fun e => by rw [hd] at e; cases e⟩
  · rw [if_neg hd]
    have hd : s.down = false := by simpa using hd
    have key : ∃ fl', putb (burn s) nf b = (0, { burn s with fl := fl' }) ∧ fl' = one ⟨A ++ (B ++ b), A.length⟩ := by
      rcases h.fl with ⟨h1, h2, h3, h4⟩ | ⟨P, r, h1, h2, h3⟩
      · refine ⟨_, putb_nil (by rw [burn_fl]; exact h1) b (by rw [burn_room, hr]; omega), ?_⟩
        rw [h3, h4 hd]; rfl
      · have hr0 := h3 hd
        subst hr0
        rw [List.append_nil] at h2
        subst h2
        refine ⟨_, putb_one (by rw [burn_fl]; exact h1) b (by rw [burn_room, hr, List.length_append]; omega), ?_⟩
        rw [List.append_assoc]
    obtain ⟨fl', e1, e2⟩ := key
    rw [e1]
    split
    · exact ⟨by show (burn s).room = _; rw [burn_room]; exact hr, .inr ⟨B ++ b, [], by show fl' = _; exact e2, by simp, fun _ => rfl⟩⟩
    · exact ⟨by show (burn s).room = _; rw [burn_room]; exact hr, .inr ⟨B ++ b, [], by show fl' = _; exact e2, by simp, fun _ => rfl⟩⟩
/-- What is read at last. -/
theorem TailInv.last {none0 : Prop} {A B : List Int} {s : St} (h : TailInv none0 A B s) (k : Int) :
    (read (boot s [k]) nf = ([], 8) ∧ none0) ∨ ∃ n, n ≤ B.length ∧ read (boot s [k]) nf = (A ++ B.take n, 0) := by
  rcases h.fl with ⟨h1, h2, h3, h4⟩ | ⟨P, r, h1, h2, h3⟩
  · left
    refine ⟨?_, h2⟩
    unfold read boot
    rw [h1, names_nil]
    rfl
  · right
    have hb : (boot s [k]).fl = bootL [nf] (one ⟨A ++ P, A.length⟩) [k] := by unfold boot; rw [h1, names_one]
    have hdn : (boot s [k]).down = false := rfl
    by_cases hc : A.length < (A ++ P).length ∧ 0 < [k].length
    · rw [bootL_yes (get_one _) hc, bootL, put_one] at hb
      have hx : get (boot s [k]).fl nf = some (kept ⟨A ++ P, A.length⟩ ([k].getD 0 0)) := by rw [hb]; exact get_one _
      rw [read_eq hdn nf_name hx]
      unfold kept
      simp only
      generalize (([k].getD 0 0) % (((A ++ P).length : Int) - (A.length : Int) + 1)) = m
      refine ⟨min m.toNat P.length, by rw [h2, List.length_append]; omega, ?_⟩
      rw [h2, List.take_append, List.take_append, List.take_of_length_le (show A.length ≤ A.length + m.toNat by omega), Nat.add_sub_cancel_left]
      rw [show min m.toNat P.length - P.length = 0 by omega, List.take_zero, List.append_nil]
      congr 2
      by_cases hm : m.toNat ≤ P.length
      · rw [Nat.min_eq_left hm]
      · rw [Nat.min_eq_right (by omega), List.take_of_length_le (by omega), List.take_of_length_le (by omega)]
    · have hP : P = [] := by
        rw [List.length_append] at hc
        simp at hc
        exact hc
      rw [bootL_no (get_one _) hc, bootL, put_one] at hb
      have hx : get (boot s [k]).fl nf = some ⟨A ++ P, (A ++ P).length⟩ := by rw [hb]; exact get_one _
      rw [read_eq hdn nf_name hx]
      exact ⟨0, Nat.zero_le _, by rw [hP]; simp⟩
end Go.Proofs.Ytcblcffkppiclaa.Dk
namespace Go.Proofs.Ytcblcffkppiclaa.Pure
open Go.RowKit Go.Proofs.Ytcblcffkppiclaa.PDiskNil Go.Proofs.YtcblcffkppiclaaW.PrintWords Go.Proofs.YtcblcffkppiclaaW.PrintLast Go.Proofs.YtcblcffkppiclaaW.PrintMore

/-! words of this session: plain facts on numbers and lists -/
theorem w64 {n : Int} (h0 : -9223372036854775808 ≤ n) (h1 : n ≤ 9223372036854775807) : wrap64 n = n := by unfold wrap64; omega
theorem u64w (n : Int) : IntKind.u64.wrap n = n % 18446744073709551616 := by simp [IntKind.wrap, IntKind.bits, IntKind.signed]
theorem u64w_id {n : Int} (h0 : 0 ≤ n) (h1 : n < 18446744073709551616) : IntKind.u64.wrap n = n := by rw [u64w]; omega
theorem rd_nat (xs : List Int) (i : Nat) : rd xs (i : Int) = xs.getD i 0 := by simp [rd]
theorem rd_get {xs : List Int} {i : Nat} (h : i < xs.length) : rd xs (i : Int) = xs[i] := by simp [rd, h]
theorem wf_i64 {x : Int} (h : (Lit.int .i64 x).wf = true) : -9223372036854775808 ≤ x ∧ x ≤ 9223372036854775807 := by
  simp [Lit.wf, IntKind.min, IntKind.max, IntKind.signed, IntKind.bits] at h; omega
theorem wf_u64 {x : Int} (h : (Lit.int .u64 x).wf = true) : 0 ≤ x ∧ x < 18446744073709551616 := by
  simp [Lit.wf, IntKind.min, IntKind.max, IntKind.signed, IntKind.bits] at h; omega
theorem wf_u8 {x : Int} (h : (Lit.int .u8 x).wf = true) : 0 ≤ x ∧ x < 256 := by
  simp [Lit.wf, IntKind.min, IntKind.max, IntKind.signed, IntKind.bits] at h; omega
theorem dropc {α : Type} (l : List α) (i : Nat) (h : i < l.length) : l.drop i = l[i] :: l.drop (i + 1) := List.drop_eq_getElem_cons h

/-! estreatref01.Same: are two lists one? -/
theorem same_l0 (xs ys : List Int) (hl : xs.length = ys.length) (hb : xs.length < 9223372036854775807) : ∀ (d k i : Nat), xs.length = i + d → d < k → estreatref01_Same.l0 k xs ys i = some (decide (xs.drop i = ys.drop i)) := by
  intro d
  induction d with
  | zero =>
    intro k i hd hk
    obtain ⟨k, rfl⟩ : ∃ m, k = m + 1 := ⟨k - 1, by omega⟩
    simp only [estreatref01_Same.l0]; rw [if_neg (by omega), List.drop_of_length_le (by omega), List.drop_of_length_le (by omega)]; simp
  | succ d ih =>
    intro k i hd hk
    obtain ⟨k, rfl⟩ : ∃ m, k = m + 1 := ⟨k - 1, by omega⟩
    simp only [estreatref01_Same.l0]
    have := ih k (i + 1) (by omega) (by omega)
    simp only [Int.natCast_add, Int.natCast_one] at this
    rw [if_pos (by omega), if_pos (by omega), if_pos (by omega), rd_get (by omega), rd_get (by omega), w64 (by omega) (by omega), this]
    have ex : xs.drop i = xs[i] :: xs.drop (i + 1) := List.drop_eq_getElem_cons (by omega)
    have ey : ys.drop i = ys[i] :: ys.drop (i + 1) := List.drop_eq_getElem_cons (by omega)
    rw [ex, ey]
    by_cases h : xs[i] = ys[i]
    · rw [if_pos h, h]; simp only [List.cons.injEq, true_and]
    · rw [if_neg h, decide_eq_false]; simp only [List.cons.injEq, h, false_and, not_false_eq_true]
theorem same_f (xs ys : List Int) (hb : xs.length < 9223372036854775807) : ∀ k, xs.length < k → estreatref01_Same.f k xs ys = some (decide (xs = ys)) := by
  intro k hk
  unfold estreatref01_Same.f
  by_cases h : xs.length = ys.length
  · rw [if_pos (by omega)]
    have := same_l0 xs ys h hb xs.length k 0 (by omega) hk
    simpa using this
  · rw [if_neg (by omega)]
    have : xs ≠ ys := fun e => h (by rw [e])
    simp [this]

end Go.Proofs.Ytcblcffkppiclaa.Pure
