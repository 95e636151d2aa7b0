/- The law DiskSync's walk. -/
import Derived.Test.YtcblcffkppiclaaDmF
namespace Go.Proofs.Ytcblcffkppiclaa.Dk
open Go.RowKit Go.Maps Go.Sort Go.Proofs.Ytcblcffkppiclaa.DkMap Go.Proofs.YtcblcffkppiclaaW.PrintWords Go.Proofs.YtcblcffkppiclaaW.PrintLast Go.Proofs.YtcblcffkppiclaaW.PrintMore Go.Proofs.Ytcblcffkppiclaa.PDiskNil
attribute [local go_sem] max2_int min2_int max_two min_two max_three min_three max_four min_four
set_option linter.unusedVariables false
set_option linter.unusedSimpArgs false
set_option linter.unusedSectionVars false
theorem info26 : (Try.prog.info? 26).map (fun i => (i.zero, i.size, i.bytes)) = some (some (.slice none 0 0), 1, 24) := by kernel_rfl
/-- A row of names in memory, outside the disk. -/
def NmRow (w : World) (tag : Tags) (A : Option Addr) (l : List (List UInt8)) : Prop :=
  0 < l.length → ∃ g, A = some ⟨g, 0, none⟩ ∧ tag g = none ∧ g < w.heap.size ∧ ∀ j, j < l.length → w.cell? ⟨g, j, none⟩ = some (.string ⟨⟨l.getD j []⟩⟩)
theorem NmRow.turn {w w' : World} {tag tag' : Tags} {A : Option Addr} {l : List (List UInt8)} (h : NmRow w tag A l) (hT : Turn w w' tag tag') : NmRow w' tag' A l := by
  intro hp
  obtain ⟨g, e, h1, h2, h3⟩ := h hp
  exact ⟨g, e, hT.tags g h2 h1, Nat.lt_of_lt_of_le h2 hT.size, fun j hj => (hT.cell (a := ⟨g, j, none⟩) h2 h1).trans (h3 j hj)⟩
/-- What lies outside the disk. -/
abbrev Out (tag : Tags) : Nat → Prop := fun k => tag k = none
theorem R_turn {α : Type} {d : Kd α} {e : Nat} {w w' : World} {tag tag' : Tags} {base : Nat} {v : Value} {xs : List α} (h : d.R e w base (Out tag) v xs) (hT : Turn w w' tag tag') : d.R e w' base (Out tag') v xs :=
  Kd.R_mono (Kd.R_step (Kd.R_bound h) (fun k hk _ => hT.block k hk.2.2.1 hk.1)) (fun k hk => hT.tags k hk.2.2.1 hk.1)
section
variable {w : World} {tag : Tags} {p : Nat} {st : St}
theorem names_dsk (h : Dsk Try.prog w tag p st) (hd : st.down = false) : Calls Try.prog 22 #[.pointer (some ⟨p, 0, none⟩)] w fun e w' =>
    ∃ A c, e = .returned (.slice A (names st.fl).length c) ∧ NmRow w' tag A (names st.fl) ∧ Below w.heap.size w w' := by
  refine (Names_ok w tag p st h).mono ?_
  rintro e w' ⟨v, rfl, ⟨B, hB, hrow⟩, hb⟩
  rw [hd] at hrow
  simp only [if_neg (show ¬ (false = true) by simp)] at hrow
  obtain ⟨A, c, rfl, hcl⟩ := own_strs hrow rfl
  exact ⟨A, c, rfl, fun hp => by
    obtain ⟨g, e1, e2, e3, e4⟩ := hcl hp
    exact ⟨g, e1, Dsk.fresh h g (Nat.le_trans hB e2), e3, fun j hj => e4 j hj⟩, hb⟩
theorem names_dsk' (h : Dsk Try.prog w tag p st) (hd : st.down = false) {L : List (List UInt8)} {n : Nat} (hL : names st.fl = L) (hn : L.length = n) : Calls Try.prog 22 #[.pointer (some ⟨p, 0, none⟩)] w fun e w' =>
    ∃ A c, e = .returned (.slice A n c) ∧ NmRow w' tag A L ∧ Below w.heap.size w w' := by
  subst hn hL
  exact names_dsk h hd
theorem read_dsk (h : Dsk Try.prog w tag p st) (hd : st.down = false) {n : List UInt8} (hn : isName n = true) {x : Fi} (hx : get st.fl n = some x) : Calls Try.prog 13 #[.pointer (some ⟨p, 0, none⟩), .string ⟨⟨n⟩⟩] w fun e w' =>
    ∃ A c, e = .returned (.tuple #[.slice A x.b.length c, .int .i64 0]) ∧ x.b.length ≤ c ∧ (Kd.int .u8).R 5 w' w.heap.size (Out tag) (.slice A x.b.length c) x.b ∧ Below w.heap.size w w' := by
  have hs : (ByteArray.mk ⟨n⟩).size ≤ maxLen := by
    have hl : n.length ≤ 32 := by
      rw [isName_eq] at hn
      simp only [Bool.and_eq_true, decide_eq_true_eq] at hn
      exact hn.2
    show n.length ≤ maxLen
    unfold maxLen
    omega
  refine (Read_ok w tag p st h ⟨⟨n⟩⟩ hs).mono ?_
  rintro e w' ⟨v, rfl, ⟨B, hB, hR⟩, hb⟩
  have e1 : read st (ByteArray.mk ⟨n⟩).data.toList = (x.b, 0) := read_eq hd hn hx
  rw [e1] at hR
  rw [e1]
  obtain ⟨A, c, rfl, hc, _⟩ := Kd.R_reads hR
  exact ⟨A, c, rfl, hc, Kd.R_lower (Kd.R_mono (Kd.R_bound hR) (fun k hk => Dsk.fresh h k (Nat.le_trans hB hk.2.1))) hB, hb⟩
theorem sync_dsk (h : Dsk Try.prog w tag p st) (hd : st.down = false) (hf : st.fuse = -1) {n : List UInt8} (hn : isName n = true) {x : Fi} (hx : get st.fl n = some x) : Calls Try.prog 10 #[.pointer (some ⟨p, 0, none⟩), .string ⟨⟨n⟩⟩] w fun e w' =>
    e = .returned (.int .i64 0) ∧ Dsk Try.prog w' tag p { st with fl := put st.fl n ⟨x.b, x.b.length⟩ } ∧ Turn w w' tag tag := by
  have hs : (ByteArray.mk ⟨n⟩).size ≤ maxLen := by
    have hl : n.length ≤ 32 := by
      rw [isName_eq] at hn
      simp only [Bool.and_eq_true, decide_eq_true_eq] at hn
      exact hn.2
    show n.length ≤ maxLen
    unfold maxLen
    omega
  refine (Sync_ok w tag p st h ⟨⟨n⟩⟩ hs).mono ?_
  rintro e w' ⟨rfl, h1, t1⟩
  have e1 : sync st (ByteArray.mk ⟨n⟩).data.toList = _ := sync_eq hd hf hn hx
  rw [e1] at h1 ⊢
  exact ⟨rfl, h1, t1⟩
end
theorem down_dsk (w : World) (tag : Tags) (p : Nat) (st : St) (h : Dsk Try.prog w tag p st) : Calls Try.prog 15 #[.pointer (some ⟨p, 0, none⟩)] w fun e w' => e = .returned (.bool st.down) ∧ w = w' := by
  obtain ⟨_, M, D, F, h⟩ := h
  exact Down_ok w tag p M D F _ st h
def bOf (fl : Fl) (s : List UInt8) : List Int := ((get fl s).map (·.b)).getD []
abbrev RowsK := Kd.slice 5 (Kd.int .u8)
theorem R_apart {w : World} {B : Nat} {ok : Nat → Prop} {v v' : Value} {xs : List Int} {ls : List (List Int)} (h : (Kd.int .u8).R 5 w B ok v xs) (h' : RowsK.R 26 w B ok v' ls) : (Kd.int .u8).R 5 w B (fun k => ok k ∧ some k ≠ v'.ownBlock) v xs := by
  cases hv : v'.ownBlock with
  | none => exact Kd.R_mono h (fun k hk => ⟨hk, by simp⟩)
  | some g =>
    obtain ⟨inner, ho⟩ := Kd.R_own h'
    obtain ⟨cells, hb⟩ := own_typed ho g hv
    exact Kd.R_mono (Kd.R_types h hb (by intro q hq; simp [Kd.int, Kd.scalar] at hq; omega)) (fun k hk => ⟨hk.1, fun e => by injection e with e; exact hk.2 e⟩)
theorem Turn.grown {w7 w5 w6 : World} {tg : Tags} (hT : Turn w7 w5 tg tg) {row : Option Nat} (hg : w5.grownBy w6 row) (hrow : ∀ k, row = some k → w7.heap.size ≤ k) : Turn w7 w6 tg tg :=
  ⟨hg.os.trans hT.os, hg.tape.trans hT.tape, hg.output.trans hT.output, Nat.le_trans hT.size hg.size, fun k hk ht => (hg.block k (Nat.lt_of_lt_of_le hk hT.size) (fun e => by have := hrow k e.symm; omega)).trans (hT.block k hk ht), fun _ _ h => h⟩
theorem Dsk.grown {w w' : World} {tag : Tags} {p : Nat} {st : St} (h : Dsk Try.prog w tag p st) {row : Option Nat} (hg : w.grownBy w' row) (hrow : ∀ k, row = some k → tag k = none) : Dsk Try.prog w' tag p st := by
  obtain ⟨hok, M, D, F, h⟩ := h
  refine ⟨hok, M, D, F, h.same hg.size (fun k hk => hg.block k ?_ (fun e => by rw [hrow k e.symm] at hk; cases hk))⟩
  rcases Nat.lt_or_ge k w.heap.size with h1 | h1
  · exact h1
  · rw [h.fresh k h1] at hk; cases hk
theorem was_at {w : World} {B : Nat} {ok : Nat → Prop} {v : Value} {ls : List (List Int)} (h : RowsK.R 26 w B ok v ls) {j : Nat} (hj : j < ls.length) :
    ∃ gw c Ai ci, v = .slice (some ⟨gw, 0, none⟩) ls.length c ∧ w.cell? ⟨gw, j, none⟩ = some (.slice Ai ls[j].length ci) ∧ ls[j].length ≤ ci ∧ (Kd.int .u8).C w Ai ls[j].length ls[j] := by
  obtain ⟨inner, ho⟩ := Kd.R_own h
  obtain ⟨A, c, rfl, hc, hC⟩ := Kd.R_reads h
  obtain ⟨ad, cs, hA, hlen, ⟨Ai, ci, e, h1, h2⟩, hcell⟩ := Kd.C_get hC [] (j : Int) (by omega) (by omega)
  subst hA
  rw [Int.toNat_natCast, show ls.getD j [] = ls[j] by simp [List.getD, hj]] at *
  rcases ho.2 with ⟨e2, _⟩ | ⟨g, cap, cur, e2, _⟩
  · cases e2
  · injection e2 with e2
    injection e2 with e2
    subst e2
    refine ⟨g, c, Ai, ci, rfl, ?_, h1, h2⟩
    have := hcell 0 (.slice Ai ls[j].length ci) (by rw [e]; rfl)
    rw [add0] at this
    simpa [Kd.slice] using this
theorem same_true (W : World) (A0 A1 : Option Addr) (c0 c1 : Nat) (l : List Int) (hr0 : (Kd.int .u8).C W A0 l.length l) (hc0 : l.length ≤ c0) (hr1 : (Kd.int .u8).C W A1 l.length l) (hc1 : l.length ≤ c1) (hl : l.length < 9223372036854775807) :
    Calls Try.prog 14 #[.slice A0 l.length c0, .slice A1 l.length c1] W fun e w' => e = .returned (.bool true) ∧ Drawn0 W w' := by
  have hf := Pure.same_f l l hl (l.length + 1) (by omega)
  rw [decide_eq_true rfl] at hf
  exact estreatref01_Same.calls (l.length + 1) A0 c0 l A1 c1 l _ W hr0 hc0 hr1 hc1 hf
set_option maxHeartbeats 16000000 in
set_option maxRecDepth 100000 in
theorem DiskSync_ok (A : Option Addr) (l : List DAct) (c : Nat) (K : Option Addr) (ks : List Int) (kc : Nat) (w : World) (hA : Acts w noTag A l) (hl : l.length ≤ maxLen) (hK : Kp w noTag K kc ks) (hkl : ks.length ≤ maxLen) :
    Calls Try.prog 6 #[.slice A l.length c, .slice K ks.length kc] w fun e w' => e = .returned (.bool true) ∧ Below w.heap.size w w' := by
  have hN0 := New_ok w 100000 (by omega)
  rw [show ((100000 : Nat) : Int) = 100000 from rfl] at hN0
  have hN := Aside0.mk hN0
  clear hN0
  have hG := Aside0.mk (great_ok w noTag A l c hA hl)
  have HA := Aside0.mk hA
  have HK := Aside0.mk hK
  clear hA hK
  by_cases hk50 : 50 < ks.length
  · go_enter Try.func6, Try.ntmps6
    go_wp2_with (first
      | (go_at_call 16; (with_reducible refine hG.out.mono ?_); rintro e w1 ⟨⟨g, rfl, hg⟩, rfl⟩; have HG := Aside0.mk hg; clear hg; cases g)
      | (go_at_call 7; (with_reducible refine (awake_ok _).mono ?_); rintro e w2 ⟨rfl, t2⟩))
    · go_ret
      exact ⟨rfl, t2⟩
    · go_ret
      exact ⟨rfl, t2⟩
  · go_enter Try.func6, Try.ntmps6
    go_wp2_with (first
      | (go_at_call 16; (with_reducible refine hG.out.mono ?_); rintro e w1 ⟨⟨g, rfl, hg⟩, rfl⟩; have HG := Aside0.mk hg; clear hg; cases g)
      | (go_at_call 7; (with_reducible refine (awake_ok _).mono ?_); rintro e w2 ⟨rfl, t2⟩)
      | (go_at_call 8; (with_reducible refine hN.out.mono ?_); rintro e w3 ⟨p, tag, rfl, h3, t3⟩; have H3 := Aside0.mk h3; have T3 := Aside0.mk t3; clear h3 t3))
    rotate_left
    · go_ret
      exact ⟨rfl, t2⟩
    have hS := HG.out (by trivial)
    have HS := Aside0.mk hS.2
    have hl60 := hS.1
    have HA3 := Aside0.mk (HA.out.turn T3.out)
    have HK3 := Aside0.mk (HK.out.turn T3.out)
    clear HG hS hG hN HA HK
    go_loopw [6] (fun k wr => ∃ (j : Nat) (st : St) (tg : Tags), j ≤ l.length ∧ k = .int .i64 j ∧ Aside0 (Named st.fl) ∧ Aside0 (Dsk Try.prog wr tg p st) ∧ Aside0 (Acts wr tg A l) ∧ Aside0 (Kp wr tg K kc ks) ∧ Aside0 (Turn w1 wr noTag tg)) (fun k _ => l.length - (intOf k).toNat)
    case atStart => exact ⟨0, _, tag, Nat.zero_le _, rfl, ⟨fun s hs => by cases hs⟩, H3, HA3, HK3, T3⟩
    case round =>
      obtain ⟨j, st, tg, hj, rfl, hNm, hD, hAc, hKp, hT⟩ := hrel
      by_cases hlt : j < l.length
      · obtain ⟨ad, rfl, hbk, htn, ⟨s, t, B, cb, Kk, kkc, c0, c1, c2, c3, c4, c5, es, et, hs, ht', hAA, hKK, hbl, hkl2, hn⟩⟩ := hAc.out j hlt
        have hsm := (HS.out j hlt).b
        have HD := Aside0.mk (do_ok wr tg p st hD.out l[j] s t B cb Kk kkc es et hs ht' hAA hKK hbl hkl2 hn (by omega))
        have q0 : wr.cell? (ad.add (j * 6)) = some (.int .i64 l[j].kind) := c0
        have q3 : wr.cell? ⟨(ad.add (j * 6)).block, (ad.add (j * 6)).off + 3, none⟩ = some (.slice B l[j].b.length cb) := by rw [add_field ad (j * 6) 2]; exact c3
        have q4 : wr.cell? ⟨(ad.add (j * 6)).block, (ad.add (j * 6)).off + 4, none⟩ = some (.int .i64 l[j].n) := by rw [add_field ad (j * 6) 3]; exact c4
        have q5 : wr.cell? ⟨(ad.add (j * 6)).block, (ad.add (j * 6)).off + 5, none⟩ = some (.slice Kk l[j].ks.length kkc) := by rw [add_field ad (j * 6) 4]; exact c5
        have q1 : wr.cell? ⟨(ad.add (j * 6)).block, (ad.add (j * 6)).off + 1, none⟩ = some (.string s) := by rw [add_field ad (j * 6) 0]; exact c1
        have q2 : wr.cell? ⟨(ad.add (j * 6)).block, (ad.add (j * 6)).off + 2, none⟩ = some (.string t) := by rw [add_field ad (j * 6) 1]; exact c2
        have hNm2 := Aside0.mk (act_named hNm.out l[j])
        generalize act st l[j] = r at HD hNm2
        obtain ⟨rn, st2⟩ := r
        simp only at HD hNm2
        clear c0 c1 c2 c3 c4 c5 es et hs ht' hAA hKK hbl hkl2 hn hsm
        go_wp2_with (go_at_call 18; (with_reducible refine HD.out.mono ?_); rintro e w5 ⟨tg2, rfl, h5, t5⟩; have H5 := Aside0.mk h5; have T5 := Aside0.mk t5; clear h5 t5 HD)
        exact ⟨⟨j + 1, st2, tg2, by omega, rfl, hNm2, H5, ⟨hAc.out.turn T5.out⟩, ⟨hKp.out.turn T5.out⟩, ⟨hT.out.trans T5.out⟩⟩, by simp [intOf]; omega⟩
      · have hB := Aside0.mk hT.out.noBelow
        have H0 := Aside0.mk hD.out
        clear hAc HA3 HK3 HS H3 T3 hD
        cases hd : st.down
        rotate_left
        · go_wp2_with (first
            | (go_at_call 15; (with_reducible refine (down_dsk _ _ _ _ H0.out).mono ?_); rintro e w2 ⟨he, rfl⟩; rw [hd] at he; subst he)
            | (go_at_call 7; (with_reducible refine (awake_ok _).mono ?_); rintro e w2 ⟨rfl, t2⟩))
          go_ret
          exact ⟨rfl, below_step hB.out t2⟩
        · go_wp2_with (first
            | (go_at_call 15; (with_reducible refine (down_dsk _ _ _ _ H0.out).mono ?_); rintro e w2 ⟨he, rfl⟩; rw [hd] at he; subst he)
            | (go_at_call 11; (with_reducible refine (Fuse_dsk _ _ _ _ H0.out (-1) (by omega)).mono ?_); rintro e w6 ⟨rfl, h6, t6⟩; have H6 := Aside0.mk h6; have T6 := Aside0.mk t6; clear h6 t6 H0)
            | (go_at_call 22; (with_reducible refine (names_dsk H6.out hd).mono ?_); rintro e w7 ⟨An, cn, rfl, hnm, b7⟩; have H7 := Aside0.mk (Dsk.below H6.out b7); have NM := Aside0.mk hnm; have T7 := Aside0.mk (T6.out.trans (Turn.below (tag := tg) b7)); clear hnm b7 T6 H6))
          have T1 := Aside0.mk (hT.out.trans T7.out)
          have K7 := Aside0.mk (hKp.out.turn T7.out)
          have h8 : Dsk Try.prog w7 tg p ⟨st.room, st.fl, -1, false⟩ := by have := H7.out; rw [hd] at this; exact this
          have H8 := Aside0.mk h8
          have NM8 := NM.out
          have NN := Aside0.mk hNm.out
          rw [show (({ room := st.room, fl := st.fl, fuse := max (-1) (-1), down := st.down } : St).fl) = st.fl from rfl] at *
          have hfew : (names st.fl).length ≤ 65536 := by rw [names_length]; exact h8.1.few
          have hrm : st.room ≤ 1099511627776 := h8.1.room
          have hN9 := Aside0.mk NM8
          clear h8 H7 NM NM8 hd hT hKp hNm T7 hB
          clear hj
          generalize st.fl = fl0 at *
          generalize st.room = rm at *
          generalize hnn : (names fl0).length = nn at *
          go_loopw [8, 9] (fun wv iv wr2 => ∃ (j : Nat) (fl2 : Fl) (ls : List (List Int)), j ≤ nn ∧ iv = .int .i64 j ∧ Aside0 (SyncRel fl0 fl2 ((names fl0).take j)) ∧ Aside0 (Dsk Try.prog wr2 tg p ⟨rm, fl2, -1, false⟩) ∧ Aside0 (RowsK.R 26 wr2 w7.heap.size (Out tg) wv ls) ∧ Aside0 (ls = ((names fl0).take j).map (bOf fl0)) ∧ Aside0 (Turn w7 wr2 tg tg)) (fun _ iv _ => nn - (intOf iv).toNat)
          case atStart => exact ⟨0, fl0, [], Nat.zero_le _, rfl, ⟨SyncRel.refl _⟩, H8, ⟨Kd.R_nil _ _ _ _ _⟩, ⟨rfl⟩, ⟨Turn.refl _ _⟩⟩
          case round =>
            obtain ⟨i, fl2, ls, hi, rfl, hsr, hd2, hrw, hls, ht⟩ := hrel
            by_cases hlt2 : i < nn
            · have hnl : i < (names fl0).length := by rw [hnn]; exact hlt2
              obtain ⟨g, rfl, hgt, hgs, hgc⟩ := (hN9.out.turn ht.out) (by omega)
              have hcj := hgc i hnl
              have hnm : (names fl0).getD i [] ∈ names fl0 := by rw [List.getD_eq_getElem?_getD, List.getElem?_eq_getElem hnl]; exact List.getElem_mem hnl
              have htk : (names fl0).take (i + 1) = (names fl0).take i ++ [(names fl0).getD i []] := by rw [List.take_add_one, List.getD_eq_getElem?_getD, List.getElem?_eq_getElem hnl]; rfl
              generalize (names fl0).getD i [] = nm at hcj hnm htk
              obtain ⟨x, hx⟩ := Option.isSome_iff_exists.1 ((names_mem _ _).1 hnm)
              obtain ⟨y, hy, hyb, _⟩ := hsr.out.rel nm x hx
              have hin := NN.out.get hx
              have hbo : bOf fl0 nm = y.b := by unfold bOf; rw [hx, hyb]; rfl
              have hsr2 := hsr.out.step hy
              rw [← htk] at hsr2
              have hll : ls.length = i := by rw [hls.out, List.length_map, List.length_take]; omega
              have hls2 : ls ++ [y.b] = ((names fl0).take (i + 1)).map (bOf fl0) := by rw [htk, List.map_append, ← hls.out]; simp [hbo]
              have hyl : y.b.length ≤ 1099511627776 := by have := get_used hy; have := hd2.out.1.fits; have := hd2.out.1.room; simp only at *; omega
              have HSR := Aside0.mk hsr2
              have HLS := Aside0.mk hls2
              have HIN := Aside0.mk hin
              have HY := Aside0.mk hy
              clear hsr2 hls2 hin hy hx hyb hbo htk hnm hgc hls hsr
              have hread := Aside0.mk (read_dsk hd2.out rfl HIN.out HY.out)
              go_wp2_with (first
                | (go_at_call 13; (with_reducible refine hread.out.mono ?_); rintro e w4 ⟨A4, c4, rfl, hc4, hR4, b4⟩; have hcj4 := ((Turn.below (tag := tg) b4).cell (a := ⟨g, i, none⟩) hgs hgt).trans hcj; have HR4 := Aside0.mk (Kd.R_lower hR4 ht.out.size); have H4 := Aside0.mk (Dsk.below hd2.out b4); have B4 := Aside0.mk b4; clear hR4 b4 hread)
                | (go_at_call 10; (with_reducible refine (sync_dsk H4.out rfl rfl HIN.out HY.out).mono ?_); rintro e w5 ⟨rfl, h5, t5⟩; have H5 := Aside0.mk h5; have T5 := Aside0.mk t5; have O5 := Aside0.mk (R_turn (R_turn hrw.out (Turn.below (tag := tg) B4.out)) t5); have R5 := Aside0.mk (R_apart (R_turn HR4.out t5) O5.out); clear h5 t5)
                | (at_builtin; refine Kd.R_append RowsK (w0 := w5) w7.heap.size rfl (.tmp 71) (.tmp 73) 22 26 (.slice none 0 0) 24 rfl Try.underlying22 info26 rfl (by decide) (by decide) _ ls y.b [.slice A4 y.b.length c4] (Out tg) _ rfl rfl ⟨_, rfl, R5.out⟩ (fun k hk => hk) (fun k hk => Dsk.fresh H5.out k hk) O5.out (Below.refl _ _) (Nat.le_trans ht.out.size (Nat.le_trans B4.out.size T5.out.size)) (by omega) ?_; intro v1 w6 hR6 _ hg6 _))
              exact ⟨⟨i + 1, put fl2 nm ⟨y.b, y.b.length⟩, ls ++ [y.b], by omega, rfl, HSR, ⟨Dsk.grown H5.out hg6 (fun k hk => O5.out.1 k hk)⟩, ⟨hR6⟩, HLS, ⟨Turn.grown (ht.out.trans ((Turn.below B4.out).trans T5.out)) hg6 (fun k hk => ((Kd.R_bound O5.out).1 k hk).2.1)⟩⟩, by simp [intOf]; omega⟩
            · have hie : i = nn := by omega
              subst hie
              have hsrF := hsr.out
              rw [← hnn, List.take_length] at hsrF
              have hlsF := hls.out
              rw [← hnn, List.take_length] at hlsF
              have hbt := Boot_ok wr tg p ⟨rm, fl2, -1, false⟩ hd2.out K kc ks (by unfold maxLen at hkl; omega) (K7.out.turn ht.out)
              rw [boot_synced hsrF ks] at hbt
              have hnames := hsrF.names
              have HBT := Aside0.mk hbt
              have HSR := Aside0.mk hsrF
              have HLS := Aside0.mk hlsF
              have HD2 := Aside0.mk hd2.out
              clear hbt hsrF hlsF hsr hls
              generalize huo : usedOf ⟨rm, fl2, -1, false⟩ = uo
              have hused := fun (w : World) (h : Dsk Try.prog w tg p ⟨rm, fl2, -1, false⟩) => used_dsk w tg p _ h
              rw [huo] at hused
              have HUS := Aside0.mk hused
              clear hused huo
              go_wp2_with (first
                | (go_at_call 17; (with_reducible refine (HUS.out _ HD2.out).mono ?_); rintro e w8 ⟨rfl, rfl⟩; clear HD2)
                | (go_at_call 12; (with_reducible refine HBT.out.mono ?_); rintro e w9 ⟨rfl, h9, t9⟩; have H9 := Aside0.mk h9; have T9 := Aside0.mk t9; clear h9 t9 HBT)
                | (go_at_call 22; (with_reducible refine (names_dsk' H9.out rfl hnames hnn).mono ?_); rintro e w11 ⟨An2, cn2, rfl, hnm2, b11⟩; have H11 := Aside0.mk (Dsk.below H9.out b11); have NM2 := Aside0.mk hnm2; have T11 := Aside0.mk (T9.out.trans (Turn.below (tag := tg) b11)); clear hnm2 b11 T9 H9)
                | (go_at_call 17; (with_reducible refine (HUS.out _ H11.out).mono ?_); rintro e w8 ⟨rfl, rfl⟩))
              have NM1 := Aside0.mk (hN9.out.turn (ht.out.trans T11.out))
              have RW := Aside0.mk (R_turn hrw.out T11.out)
              have TT := Aside0.mk (T1.out.trans (ht.out.trans T11.out))
              clear hN9 hrw T1 K7 H8 hd2 ht
              go_loopw [14] (fun iv wr3 => ∃ j : Nat, j ≤ i ∧ iv = .int .i64 j ∧ Aside0 (Dsk Try.prog wr3 tg p ⟨rm, fl2, -1, false⟩) ∧ Aside0 (Turn w11 wr3 tg tg)) (fun iv _ => i - (intOf iv).toNat)
              case atStart => exact ⟨0, Nat.zero_le _, rfl, H11, ⟨Turn.refl _ _⟩⟩
              case round =>
                obtain ⟨j, hj, rfl, hd3, ht3⟩ := hrel
                by_cases hlt3 : j < i
                · have hjl : j < (names fl0).length := by rw [hnn]; exact hlt3
                  obtain ⟨g, rfl, hgt, hgs, hgc⟩ := (NM1.out.turn ht3.out) (by omega)
                  obtain ⟨g2, rfl, hgt2, hgs2, hgc2⟩ := (NM2.out.turn ht3.out) (by omega)
                  have hcj := hgc j hjl
                  have hcj2 := hgc2 j hjl
                  have hlj : j < ls.length := by rw [HLS.out, List.length_map]; exact hjl
                  have hlsn : ls.length = i := by rw [HLS.out, List.length_map, hnn]
                  have hlsj : ls[j] = bOf fl0 ((names fl0).getD j []) := by
                    have e0 := HLS.out
                    subst e0
                    rw [List.getElem_map]
                    congr 1
                    simp [List.getD, hjl]
                  have hnm : (names fl0).getD j [] ∈ names fl0 := by rw [List.getD_eq_getElem?_getD, List.getElem?_eq_getElem hjl]; exact List.getElem_mem hjl
                  generalize (names fl0).getD j [] = nm at hcj hcj2 hnm hlsj
                  obtain ⟨x, hx⟩ := Option.isSome_iff_exists.1 ((names_mem _ _).1 hnm)
                  obtain ⟨y, hy, hyb, _⟩ := HSR.out.rel nm x hx
                  have hin := NN.out.get hx
                  have hbo : ls[j] = y.b := by rw [hlsj]; unfold bOf; rw [hx, hyb]; rfl
                  obtain ⟨gw, cw, Ai, ci, rfl, hwc, hwl, hwC⟩ := was_at (R_turn RW.out ht3.out) hlj
                  have hwt := RW.out.1 gw rfl
                  have hws := ((Kd.R_bound RW.out).1 gw rfl).2.2.1
                  rw [hbo] at hwc hwl hwC
                  rw [hlsn] at *
                  have hyl : y.b.length < 9223372036854775807 := by have := get_used hy; have := hd3.out.1.fits; have := hd3.out.1.room; simp only at *; omega
                  have hread := Aside0.mk (read_dsk hd3.out rfl hin hy)
                  have WC := Aside0.mk hwC
                  have hjj : (j : Int) < (i : Int) := by omega
                  have hself : ((ByteArray.mk ⟨nm⟩).toList != (ByteArray.mk ⟨nm⟩).toList) = false := by simp
                  have HT3 := Aside0.mk ht3.out
                  have HD3 := Aside0.mk hd3.out
                  clear hgc hgc2 hlsj hnm hx hy hyb hin hbo hwC ht3 hd3
                  go_wp2_with (go_at_call 13; (with_reducible refine hread.out.mono ?_); rintro e w12 ⟨A4, c4, rfl, hc4, hR4, b4⟩; have f1 := ((Turn.below (tag := tg) b4).cell (a := ⟨g, j, none⟩) hgs hgt).trans hcj; have f2 := ((Turn.below (tag := tg) b4).cell (a := ⟨g2, j, none⟩) hgs2 hgt2).trans hcj2; have f3 := ((Turn.below (tag := tg) b4).cell (a := ⟨gw, j, none⟩) (Nat.lt_of_lt_of_le hws HT3.out.size) hwt).trans hwc; have CC := Aside0.mk (Kd.C_below WC.out b4); obtain ⟨A5, c5, e5, hc5, hC5⟩ := Kd.R_reads hR4; injection e5 with e51 e52 e53; subst e51 e53; have C4 := Aside0.mk hC5; have B4 := Aside0.mk b4; clear hR4 b4 hread hC5)
                  have HYL := Aside0.mk hyl
                  have HWL := Aside0.mk hwl
                  have HC4 := Aside0.mk hc4
                  clear hyl hwl hc4
                  go_quiet ((go_at_call 14; exact Calls.quiet_of ((same_true _ _ _ _ _ y.b (Kd.C_below C4.out (below_drewN _ _ _)) HC4.out (Kd.C_below CC.out (below_drewN _ _ _)) HWL.out HYL.out).mono (by rintro e w' ⟨rfl, hd⟩; obtain ⟨m, rfl⟩ := hd.out; exact ⟨rfl, m, rfl⟩))))
                  go_wp2
                  exact ⟨⟨j + 1, by omega, rfl, ⟨Dsk.below (Dsk.below HD3.out B4.out) (below_drewN w12.heap.size _ _)⟩, ⟨HT3.out.trans ((Turn.below B4.out).trans (Turn.below (below_drewN w12.heap.size _ _)))⟩⟩, by simp [intOf]; omega⟩
                · go_wp2_with (go_at_call 7; (with_reducible refine (awake_ok _).mono ?_); rintro e w2 ⟨rfl, t2⟩)
                  go_ret
                  exact ⟨rfl, below_step (TT.out.trans ht3.out).noBelow t2⟩
theorem DiskSync_row (A : Option Addr) (l : List DAct) (c : Nat) (K : Option Addr) (ks : List Int) (kc : Nat) (w : World) (hA : Acts w noTag A l ∧ l.length ≤ maxLen) (hK : Kp w noTag K kc ks ∧ ks.length ≤ maxLen) :
    Calls Try.prog 6 #[.slice A l.length c, .slice K ks.length kc] w fun e w' => e = .returned (.bool true) ∧ Below w.heap.size w w' := DiskSync_ok A l c K ks kc w hA.1 hA.2 hK.1 hK.2
theorem open_keeps {H : Type} {enc : TypeId × Value → H} {W : World} {a : Option Addr} {len cap : Nat} {d : DataW H} {p : List MemPlace} (h : DataW.Trod enc Try.prog W 0 (fun _ => true) true 32 (.slice a len cap) d p) : ∃ l : List Int, l.length = len ∧ Kp W noTag a cap l ∧ l.length ≤ maxLen := by
  obtain ⟨fuel, hf⟩ := h
  obtain ⟨A, c, b, e, h1, h2⟩ := open_nums (by simpa [Value.cells] using hf)
  injection e with e1 e2 e3
  subst e1 e2 e3
  exact ⟨b, rfl, h1, h2⟩
end Go.Proofs.Ytcblcffkppiclaa.Dk
