/- The law DiskSure's walk. -/
import Derived.Test.YtcblcffkppiclaaDmG
import Derived.Deep.CutRange
import Derived.Deep.RegionHeld
namespace Go.Proofs.Ytcblcffkppiclaa.Dk
open Go.RowKit Go.Maps Go.Sort Go.Proofs.Ytcblcffkppiclaa.DkMap Go.Proofs.YtcblcffkppiclaaW.PrintWords Go.Proofs.YtcblcffkppiclaaW.PrintLast Go.Proofs.YtcblcffkppiclaaW.PrintMore Go.Proofs.Ytcblcffkppiclaa.PDiskNil Go.ChangeShapes Go.WideShapes
attribute [local go_sem] max2_int min2_int max_two min_two max_three min_three max_four min_four
set_option linter.unusedVariables false
set_option linter.unusedSimpArgs false
set_option linter.unusedSectionVars false
theorem info5b : (Try.prog.info? 5).map (fun i => (i.zero, i.size, i.bytes)) = some (some (.int .u8 0), 1, 1) := by kernel_rfl
/-- A row of rows of bytes in memory, outside the disk. -/
def Rows (w : World) (tag : Tags) (A : Option Addr) (ls : List (List Int)) : Prop :=
  ∀ i (h : i < ls.length), ∃ ad B c, A = some ad ∧ ad.block < w.heap.size ∧ tag ad.block = none ∧ w.cell? (ad.add i) = some (.slice B ls[i].length c) ∧ Arg w tag B c ls[i] ∧ ls[i].length ≤ maxLen
theorem Rows.turn {w w' : World} {tag tag' : Tags} {A : Option Addr} {ls : List (List Int)} (h : Rows w tag A ls) (hT : Turn w w' tag tag') : Rows w' tag' A ls := by
  intro i hi
  obtain ⟨ad, B, c, e, h1, h2, h3, h4, h5⟩ := h i hi
  exact ⟨ad, B, c, e, Nat.lt_of_lt_of_le h1 hT.size, hT.tags _ h1 h2, (hT.cell (a := ad.add i) (by rw [add_block]; exact h1) (by rw [add_block]; exact h2)).trans h3, h4.turn hT, h5⟩
theorem Arg.C {w : World} {tag : Tags} {A : Option Addr} {c : Nat} {b : List Int} (h : Arg w tag A c b) (hl : b.length ≤ 9223372036854775807) : (Kd.int .u8).C w A b.length b := by
  cases hA : A with
  | none =>
    have := (h.nil hA).1
    have e : b = [] := List.eq_nil_of_length_eq_zero this
    subst e
    exact ⟨rfl, by simp, fun h => absurd h (by simp)⟩
  | some ad =>
    refine C_of_cells rfl hl (fun j hj => ?_)
    rw [h.cell ad hA j b[j] (List.getElem?_eq_getElem hj)]
    simp [List.getD, hj]
theorem Turn.grow {w1 w5 w6 : World} {t t' : Tags} (hT : Turn w1 w5 t t') {row : Option Nat} (hg : w5.grownBy w6 row) (hrow : ∀ k, row = some k → w1.heap.size ≤ k) : Turn w1 w6 t t' :=
  ⟨hg.os.trans hT.os, hg.tape.trans hT.tape, hg.output.trans hT.output, Nat.le_trans hT.size hg.size, fun k hk ht => (hg.block k (Nat.lt_of_lt_of_le hk hT.size) (fun e => by have := hrow k e.symm; omega)).trans (hT.block k hk ht), hT.tags⟩
theorem open_rows {H : Type} {enc : TypeId × Value → H} {W : World} {a : Option Addr} {len cap : Nat} {d : DataW H} {p : List MemPlace} (h : DataW.Trod enc Try.prog W 0 (fun _ => true) true 22 (.slice a len cap) d p) : ∃ ls : List (List Int), ls.length = len ∧ Rows W noTag a ls ∧ ls.length ≤ maxLen := by
  obtain ⟨fuel, hf⟩ := h
  rcases Go.Deep.open_slice Try.underlying22 hf with ⟨hcs, _⟩ | ⟨ad, len', cap', m, n, D, Pl, hcs, _, hl, hm, hmm, _, hi⟩
  · simp [Value.cells] at hcs
    obtain ⟨rfl, rfl, rfl⟩ := hcs
    exact ⟨[], rfl, fun i hi => absurd hi (by simp), Nat.zero_le _⟩
  · simp [Value.cells] at hcs
    obtain ⟨rfl, rfl, rfl⟩ := hcs
    have hC : Try.prog.cellsOf 26 = 1 := by kernel_rfl
    have hex : ∀ i, i < len → ∃ x : List Int, ∃ B c, ad.block < W.heap.size ∧ W.cell? (ad.add i) = some (.slice B x.length c) ∧ Arg W noTag B c x ∧ x.length ≤ maxLen := by
      intro i hi2
      have him : i < m := by rw [hmm]; split <;> omega
      obtain ⟨cs', hc, ht'⟩ := hi i him
      rw [hC] at hc
      obtain ⟨_, hcl, hat⟩ := World.cells?_some hc
      have hcell := hat 0 (by omega)
      match cs', hcl with
      | [v], _ =>
        obtain ⟨B, c, b, rfl, hA, hbl, _⟩ := open_bytes ht'
        have hc2 : W.cell? (ad.add i) = some (.slice B b.length c) := by
          have e : (ad.add (i * 1)).add 0 = ad.add i := by rw [Addr.add_add]; simp
          rw [e] at hcell
          exact hcell
        have := cell_lt hc2
        rw [add_block] at this
        exact ⟨b, B, c, this, hc2, hA, hbl⟩
    obtain ⟨ls, hl2, hP⟩ := pick_list hex
    refine ⟨ls, hl2, fun i hi => ?_, by omega⟩
    obtain ⟨B, c, h1, h2, h3, h4⟩ := hP i hi
    exact ⟨ad, B, c, rfl, h1, rfl, h2, h3, h4⟩
/-- The file while it is made. -/
def fl1 (i : Nat) (A : List Int) : Fl := if i = 0 then [] else one ⟨A, 0⟩
theorem append_fl1 {i : Nat} {A b : List Int} (hi : i = 0 → A = []) (hl : A.length + b.length ≤ 5000) : append ⟨5000, fl1 i A, -1, false⟩ nf b = (0, ⟨5000, fl1 (i + 1) (A ++ b), -1, false⟩) := by
  unfold append
  rw [if_neg (by simp), if_neg (by simp [fails])]
  have e : burn ⟨5000, fl1 i A, -1, false⟩ = ⟨5000, fl1 i A, -1, false⟩ := by unfold burn; simp
  rw [e]
  by_cases h0 : i = 0
  · have hA := hi h0
    subst h0 hA
    rw [putb_nil rfl b (by simp at hl ⊢; exact hl)]
    rfl
  · have e1 : fl1 i A = one ⟨A, 0⟩ := if_neg h0
    rw [putb_one (x := ⟨A, 0⟩) e1 b hl]
    have e2 : fl1 (i + 1) (A ++ b) = one ⟨A ++ b, 0⟩ := if_neg (by omega)
    rw [e2]
theorem nfS : (ByteArray.mk #[102]).data.toList = nf := rfl
theorem nfL : (ByteArray.mk #[102]).size ≤ maxLen := by unfold maxLen; decide
theorem append_f {w : World} {tag : Tags} {p : Nat} {st : St} (h : Dsk Try.prog w tag p st) {A : Option Addr} {b : List Int} {c : Nat} (hA : Arg w tag A c b) (hb : b.length ≤ 1099511627776) {e0 : Int} {st' : St} (he : append st nf b = (e0, st')) :
    Calls Try.prog 9 #[.pointer (some ⟨p, 0, none⟩), .string (ByteArray.mk #[102]), .slice A b.length c] w fun e w' => ∃ tag', e = .returned (.int .i64 e0) ∧ Dsk Try.prog w' tag' p st' ∧ Turn w w' tag tag' := by
  have := Append_ok w tag p st h (ByteArray.mk #[102]) nfL A b c hA hb
  rw [nfS, he] at this
  exact this
abbrev BytesR (w : World) (B : Nat) (ok : Nat → Prop) (v : Value) (xs : List Int) : Prop := (Kd.int .u8).R 5 w B ok v xs
theorem sync_f {w : World} {tag : Tags} {p : Nat} {st : St} (h : Dsk Try.prog w tag p st) (hd : st.down = false) (hf : st.fuse = -1) {x : Fi} (hx : get st.fl nf = some x) :
    Calls Try.prog 10 #[.pointer (some ⟨p, 0, none⟩), .string (ByteArray.mk #[102])] w fun e w' => e = .returned (.int .i64 0) ∧ Dsk Try.prog w' tag p { st with fl := put st.fl nf ⟨x.b, x.b.length⟩ } ∧ Turn w w' tag tag :=
  sync_dsk h hd hf nf_name hx
theorem boot_f {w : World} {tag : Tags} {p : Nat} {st : St} (h : Dsk Try.prog w tag p st) (k : Int) :
    Calls Try.prog 12 #[.pointer (some ⟨p, 0, none⟩), .slice (some ⟨w.heap.size, 0, none⟩) 1 1] (w.alloc (.cells #[.int .i64 k] 3)) fun e w' => e = .returned (.tuple #[]) ∧ Dsk Try.prog w' tag p (boot st [k]) ∧ Turn w w' tag tag := by
  refine (Boot_ok _ tag p _ (Dsk.below h (below_alloc (Below.refl _ _) (.cells (([k] : List Int).map (Value.int .i64)).toArray 3))) (some ⟨w.heap.size, 0, none⟩) 1 [k] (by show 1 ≤ _; omega) (Kp.lit h [k])).mono ?_
  rintro e w' ⟨he, h2, t2⟩
  exact ⟨he, h2, (Turn.alloc w tag _).trans t2⟩
theorem read_f {w : World} {tag : Tags} {p : Nat} {st : St} (h : Dsk Try.prog w tag p st) {xs : List Int} {e0 : Int} (he : read st nf = (xs, e0)) : Calls Try.prog 13 #[.pointer (some ⟨p, 0, none⟩), .string (ByteArray.mk #[102])] w fun e w' =>
    ∃ v, e = .returned (.tuple #[v, .int .i64 e0]) ∧ BytesR w' w.heap.size (Out tag) v xs ∧ Below w.heap.size w w' := by
  refine (Read_ok w tag p st h (ByteArray.mk #[102]) nfL).mono ?_
  rintro e w' ⟨v, rfl, ⟨B, hB, hR⟩, hb⟩
  rw [nfS, he] at hR
  rw [nfS, he]
  exact ⟨v, rfl, Kd.R_lower (Kd.R_mono (Kd.R_bound hR) (fun k hk => Dsk.fresh h k (Nat.le_trans hB hk.2.1))) hB, hb⟩
theorem own_form {w : World} {B : Nat} {ok : Nat → Prop} {A : Option Addr} {n c : Nat} {xs : List Int} (h : BytesR w B ok (.slice A n c) xs) : (A = none ∧ c = 0) ∨ ∃ g, A = some ⟨g, 0, none⟩ := by
  obtain ⟨inner, ho⟩ := Kd.R_own h
  rcases ho.2 with ⟨e, _⟩ | ⟨g, cap, cur, e, _⟩
  · injection e with e1 e2 e3; exact .inl ⟨e1, e3⟩
  · injection e with e1 e2 e3; exact .inr ⟨g, e1⟩
theorem same_n (W : World) (A0 A1 : Option Addr) (c0 c1 : Nat) (l : List Int) (n : Nat) (hn : l.length = n) (hr0 : (Kd.int .u8).C W A0 n l) (hc0 : n ≤ c0) (hr1 : (Kd.int .u8).C W A1 n l) (hc1 : n ≤ c1) (hl : n < 9223372036854775807) :
    Calls Try.prog 14 #[.slice A0 n c0, .slice A1 n c1] W fun e w' => e = .returned (.bool true) ∧ Drawn0 W w' := by
  subst hn
  exact same_true W A0 A1 c0 c1 l hr0 hc0 hr1 hc1 hl
theorem fl1_zero : fl1 0 [] = [] := rfl
theorem take_flat {ls : List (List Int)} {i : Nat} (h : i < ls.length) : (ls.take (i + 1)).flatten = (ls.take i).flatten ++ ls[i] := by
  rw [List.take_add_one, List.getElem?_eq_getElem h, List.flatten_append]; simp
theorem R_turn2 {w w' : World} {tag tag' : Tags} {B B2 : Nat} {v : Value} {xs : List Int} (h : BytesR w B (fun k => tag k = none ∧ k < B2) v xs) (hT : Turn w w' tag tag') : BytesR w' B (fun k => tag' k = none ∧ k < B2) v xs :=
  Kd.R_mono (Kd.R_step (Kd.R_bound h) (fun k hk _ => hT.block k hk.2.2.1 hk.1.1)) (fun k hk => ⟨hT.tags k hk.2.2.1 hk.1.1, hk.1.2⟩)
set_option maxHeartbeats 16000000 in
set_option maxRecDepth 100000 in
theorem DiskSure_ok (A : Option Addr) (sure : List (List Int)) (ca : Nat) (T : Option Addr) (tail : List (List Int)) (ct : Nat) (keep fuse : Int) (w : World) (hS : Rows w noTag A sure) (hT : Rows w noTag T tail) (hsl : sure.length ≤ maxLen) (htl : tail.length ≤ maxLen) (hf0 : 0 ≤ fuse) (hf1 : fuse ≤ 255) :
    Calls Try.prog 3 #[.slice A sure.length ca, .slice T tail.length ct, .int .i64 keep, .int .u8 fuse] w fun e w' => e = .returned (.bool true) ∧ Below w.heap.size w w' := by
  have hN0 := New_ok w 5000 (by omega)
  rw [show ((5000 : Nat) : Int) = 5000 from rfl] at hN0
  have hN := Aside0.mk hN0
  have HS := Aside0.mk hS
  have HT := Aside0.mk hT
  clear hN0 hS hT
  by_cases h10 : 10 < sure.length
  · go_enter Try.func3, Try.ntmps3
    go_wp2_with (go_at_call 7; (with_reducible refine (awake_ok _).mono ?_); rintro e w2 ⟨rfl, t2⟩)
    go_ret
    exact ⟨rfl, t2⟩
  by_cases h11 : 10 < tail.length
  · go_enter Try.func3, Try.ntmps3
    go_wp2_with (go_at_call 7; (with_reducible refine (awake_ok _).mono ?_); rintro e w2 ⟨rfl, t2⟩)
    go_ret
    exact ⟨rfl, t2⟩
  go_enter Try.func3, Try.ntmps3
  go_wp2_with (go_at_call 8; (with_reducible refine hN.out.mono ?_); rintro e w3 ⟨p, tag, rfl, h3, t3⟩; have H3 := Aside0.mk h3; have T3 := Aside0.mk t3; clear h3 t3)
  clear hN
  go_loopw [10, 12] (fun av iv wr => ∃ (i : Nat) (As : List Int) (tg : Tags), i ≤ sure.length ∧ iv = .int .i64 i ∧ As.length ≤ 100 * i ∧ Aside0 (As = (sure.take i).flatten) ∧ Aside0 (Dsk Try.prog wr tg p ⟨5000, fl1 i As, -1, false⟩) ∧ Aside0 (BytesR wr w.heap.size (Out tg) av As) ∧ Aside0 (Turn w wr noTag tg)) (fun _ iv _ => sure.length - (intOf iv).toNat)
  case atStart => exact ⟨0, [], tag, Nat.zero_le _, rfl, Nat.zero_le _, ⟨rfl⟩, ⟨H3.out⟩, ⟨Kd.R_nil _ _ _ _ _⟩, T3⟩
  case round =>
    obtain ⟨i, As, tg, hi, rfl, hal, hAs, hD, hRa, hTt⟩ := hrel
    by_cases hlt : i < sure.length
    · obtain ⟨ad, Bi, ci, rfl, hb1, hb2, hcell, hArg, hml⟩ := (HS.out.turn hTt.out) i hlt
      by_cases h100 : 100 < sure[i].length
      · have HB := Aside0.mk hTt.out.noBelow
        clear hArg hD hRa hTt H3 T3 HS HT
        generalize sure[i].length = n at hcell h100 hml
        unfold maxLen at hml
        go_wp2_with (go_at_call 7; (with_reducible refine (awake_ok _).mono ?_); rintro e w2 ⟨rfl, t2⟩)
        go_ret
        exact ⟨rfl, below_step HB.out t2⟩
      · have HAP := Aside0.mk (append_f hD.out hArg (by omega) (append_fl1 (b := sure[i]) (fun e => by rw [hAs.out, e]; rfl) (by omega)))
        have HC := Aside0.mk hArg
        have htk := Aside0.mk (take_flat hlt)
        generalize sure[i] = b at *
        clear hArg hml
        go_wp2_with (first
          | (go_at_call 9; (with_reducible refine HAP.out.mono ?_); rintro e w5 ⟨tg5, rfl, h5, t5⟩; have hcell5 := (t5.cell (a := ad.add i) (by rw [add_block]; exact hb1) (by rw [add_block]; exact hb2)).trans hcell; have H5 := Aside0.mk h5; have T5 := Aside0.mk t5; have R5 := Aside0.mk (R_turn hRa.out t5); have A5 := Aside0.mk (HC.out.turn t5); clear h5 t5)
          | (at_builtin; refine Kd.R_append_row (w0 := w5) (Value.int .u8) (0 : Int) (h1 := fun _ => rfl) w.heap.size rfl (.tmp 57) (.tmp 61) 26 5 (.int .u8 0) 1 rfl Try.underlying26 info5b rfl (by decide) _ As b Bi b.length ci (Out tg5) rfl rfl (fun k hk => Dsk.fresh H5.out k hk) R5.out (A5.out.C (by omega)) (Below.refl _ _) (Nat.le_trans hTt.out.size T5.out.size) (by omega) ?_; intro v1 w6 hR6 _ hg6 _))
        exact ⟨⟨i + 1, As ++ b, tg5, by omega, rfl, by rw [List.length_append]; omega, ⟨by rw [htk.out, ← hAs.out]⟩, ⟨Dsk.grown H5.out hg6 (fun k hk => R5.out.1 k hk)⟩, ⟨hR6⟩, ⟨Turn.grow (hTt.out.trans T5.out) hg6 (fun k hk => ((Kd.R_bound R5.out).1 k hk).2.1)⟩⟩, by simp [intOf]; omega⟩
    · have hie : i = sure.length := by omega
      subst hie
      have hal2 : As.length ≤ 1000 := by omega
      have hmod : IntKind.i64.wrap fuse = fuse := (IntKind.wrap_i64 _).trans (by omega)
      have htm : fuse.tmod 12 = fuse % 12 := Int.tmod_eq_emod_of_nonneg hf0
      have hfu : fuse % 12 ≤ 9223372036854775807 := by omega
      have HA0 := Aside0.mk (show sure.length = 0 → As = [] from fun e => by rw [hAs.out, e]; rfl)
      clear hAs H3 T3 HS hal
      have hn0 : ¬ (sure.length < sure.length) := by omega
      go_upto_region 11 with fail
      go_cut [70] from 63 to 70 (fun c wx => c = .bool false ∧ ∃ st : St, Aside0 (∀ f, TailInv (sure.length = 0) As [] { st with fuse := f }) ∧ Aside0 (Dsk Try.prog wx tg p st) ∧ Aside0 (Turn wr wx tg tg))
      case first =>
        have hc0 : 0 < sure.length ∨ sure.length = 0 := by omega
        rcases hc0 with h0 | h0
        · have e1 : fl1 sure.length As = one ⟨As, 0⟩ := if_neg (by omega)
          have HSY := Aside0.mk (sync_f (x := ⟨As, 0⟩) hD.out rfl rfl (by rw [e1]; rfl))
          have HTI := Aside0.mk (show ∀ f, TailInv (sure.length = 0) As [] { (⟨5000, put (fl1 sure.length As) nf ⟨As, As.length⟩, -1, false⟩ : St) with fuse := f } from fun f => ⟨rfl, .inr ⟨[], [], by show put _ _ _ = _; rw [e1, put_one, List.append_nil], rfl, fun _ => rfl⟩⟩)
          clear e1
          go_wp2_with (go_at_call 10; (with_reducible refine HSY.out.mono ?_); rintro e w5 ⟨rfl, h5, t5⟩; have H0 := Aside0.mk h5; have T0 := Aside0.mk t5; clear h5 t5)
          go_meet
          exact ⟨rfl, _, HTI, H0, T0⟩
        · have hA0 := HA0.out h0
          have HTI := Aside0.mk (show ∀ f, TailInv (sure.length = 0) As [] { (⟨5000, fl1 sure.length As, -1, false⟩ : St) with fuse := f } from fun f => ⟨rfl, .inl ⟨if_pos h0, h0, hA0, fun _ => rfl⟩⟩)
          clear hA0
          have hdz : ¬ (0 < sure.length) := by omega
          clear h0
          go_wp2_with fail
          go_meet
          exact ⟨rfl, _, HTI, hD, ⟨Turn.refl _ _⟩⟩
      case rest =>
        obtain ⟨rfl, st0, HTI, H0, T0⟩ := hcut
        go_wp2_with (go_at_call 11; (with_reducible refine (Fuse_dsk _ _ _ _ H0.out (fuse % 12) hfu).mono ?_); rintro e w7 ⟨rfl, h7, t7⟩; have H7 := Aside0.mk h7; have T7 := Aside0.mk (T0.out.trans t7); clear h7 t7 H0 T0)
        have HT2 := Aside0.mk (HTI.out (max (fuse % 12) (-1)))
        have RA7 := Aside0.mk (Kd.R_mono (ok' := fun k => tg k = none ∧ k < w7.heap.size) (Kd.R_bound (R_turn hRa.out T7.out)) (fun k hk => ⟨hk.1, hk.2.2.1⟩))
        have TW7 := Aside0.mk (hTt.out.trans T7.out)
        clear HTI hRa hTt T7 hD HA0 htm hmod hfu
        go_loopw [11, 13] (fun bv iv wr => ∃ (i : Nat) (Bs : List Int) (st : St) (tg : Tags), i ≤ tail.length ∧ iv = .int .i64 i ∧ Bs.length ≤ 100 * i ∧ Aside0 (TailInv (sure.length = 0) As Bs st) ∧ Aside0 (Dsk Try.prog wr tg p st) ∧ Aside0 (BytesR wr w7.heap.size (Out tg) bv Bs) ∧ Aside0 (BytesR wr w.heap.size (fun k => tg k = none ∧ k < w7.heap.size) u10 As) ∧ Aside0 (Turn w wr noTag tg) ∧ w7.heap.size ≤ wr.heap.size) (fun _ iv _ => tail.length - (intOf iv).toNat)
        case atStart => exact ⟨0, [], _, tg, Nat.zero_le _, rfl, Nat.zero_le _, HT2, H7, ⟨Kd.R_nil _ _ _ _ _⟩, RA7, TW7, Nat.le_refl _⟩
        case round =>
          obtain ⟨i, Bs, st, tg2, hi2, rfl, hbl, hTI, hD2, hRb, hRa2, hTt2, hsz⟩ := hrel
          by_cases hlt2 : i < tail.length
          · obtain ⟨ad, Bi, ci, rfl, hb1, hb2, hcell, hArg, hml⟩ := (HT.out.turn hTt2.out) i hlt2
            by_cases h100 : 100 < tail[i].length
            · have HB := Aside0.mk hTt2.out.noBelow
              clear hArg hD2 hRa2 hRb hTt2 hTI HT HT2 H7 RA7 TW7
              generalize tail[i].length = n at hcell h100 hml
              unfold maxLen at hml
              go_wp2_with (go_at_call 7; (with_reducible refine (awake_ok _).mono ?_); rintro e w2 ⟨rfl, t2⟩)
              go_ret
              exact ⟨rfl, below_step HB.out t2⟩
            · have HAP := Aside0.mk (append_f hD2.out hArg (by omega) (show append st nf tail[i] = ((append st nf tail[i]).1, (append st nf tail[i]).2) from rfl))
              have HC := Aside0.mk hArg
              have HST := Aside0.mk (hTI.out.step tail[i] (by omega))
              generalize tail[i] = b at *
              generalize append st nf b = r at HAP HST
              obtain ⟨rn, st2⟩ := r
              simp only at HAP HST
              clear hArg hml
              go_wp2_with (first
                | (go_at_call 9; (with_reducible refine HAP.out.mono ?_); rintro e w5 ⟨tg5, rfl, h5, t5⟩; have hcell5 := (t5.cell (a := ad.add i) (by rw [add_block]; exact hb1) (by rw [add_block]; exact hb2)).trans hcell; have H5 := Aside0.mk h5; have T5 := Aside0.mk t5; have R5 := Aside0.mk (R_turn hRb.out t5); have RA5 := Aside0.mk (R_turn2 hRa2.out t5); have A5 := Aside0.mk (HC.out.turn t5); clear h5 t5)
                | (at_builtin; refine Kd.R_append_row (w0 := w5) (Value.int .u8) (0 : Int) (h1 := fun _ => rfl) w7.heap.size rfl (.tmp 95) (.tmp 99) 26 5 (.int .u8 0) 1 rfl Try.underlying26 info5b rfl (by decide) _ Bs b Bi b.length ci (Out tg5) rfl rfl (fun k hk => Dsk.fresh H5.out k hk) R5.out (A5.out.C (by omega)) (Below.refl _ _) (Nat.le_trans hsz T5.out.size) (by omega) ?_; intro v1 w6 hR6 _ hg6 _))
              have hown : ∀ k, _ = some k → w7.heap.size ≤ k := fun k hk => ((Kd.R_bound R5.out).1 k hk).2.1
              exact ⟨⟨i + 1, Bs ++ b, st2, tg5, by omega, rfl, by rw [List.length_append]; omega, HST, ⟨Dsk.grown H5.out hg6 (fun k hk => R5.out.1 k hk)⟩, ⟨hR6⟩, ⟨Kd.R_step RA5.out (fun k hk hlt => hg6.block k hlt (fun e => by have := hown k e.symm; omega))⟩, ⟨Turn.grow (hTt2.out.trans T5.out) hg6 (fun k hk => Nat.le_trans TW7.out.size (hown k hk))⟩, Nat.le_trans hsz (Nat.le_trans T5.out.size hg6.size)⟩, by simp [intOf]; omega⟩
          · have hie2 : i = tail.length := by omega
            have hbl2 : Bs.length ≤ 1000 := by omega
            have HBT := Aside0.mk (boot_f hD2.out keep)
            have RB := Aside0.mk hRb.out
            have RA := Aside0.mk hRa2.out
            have TT := Aside0.mk hTt2.out
            have hdn : (boot st [keep]).down = false := rfl
            rcases hTI.out.last keep with ⟨hrd, hn0⟩ | ⟨n, hn, hrd⟩
            · generalize boot st [keep] = st9 at *
              clear hTI hD2 hRb hRa2 hTt2 HT HT2 H7 RA7 TW7
              go_wp2_with (first
                | (go_at_call 12; (with_reducible refine HBT.out.mono ?_); rintro e w8 ⟨rfl, h8, t8⟩; have H8 := Aside0.mk h8; have T8 := Aside0.mk t8; clear h8 t8)
                | (go_at_call 13; (with_reducible refine (read_f H8.out hrd).mono ?_); rintro e w9 ⟨v, rfl, hRv, b9⟩; have B9 := Aside0.mk b9; clear b9)
                | (go_at_call 7; (with_reducible refine (awake_ok _).mono ?_); rintro e w2 ⟨rfl, t2⟩))
              go_ret
              exact ⟨rfl, below_step (TT.out.trans (T8.out.trans (Turn.below B9.out))).noBelow t2⟩
            · obtain ⟨xs, hxs⟩ : ∃ xs, xs = As ++ Bs.take n := ⟨_, rfl⟩
              rw [← hxs] at hrd
              have hlx : xs.length = As.length + n := by rw [hxs, List.length_append, List.length_take]; omega
              generalize boot st [keep] = st9 at *
              obtain ⟨Aa, ca2, rfl, hca, _⟩ := Kd.R_reads RA.out
              obtain ⟨Ab, cb2, rfl, hcb, _⟩ := Kd.R_reads RB.out
              have HXS := Aside0.mk hxs
              clear hTI hD2 hRb hRa2 hTt2 HT HT2 H7 RA7 TW7 hxs
              go_wp2_with (first
                | (go_at_call 12; (with_reducible refine HBT.out.mono ?_); rintro e w8 ⟨rfl, h8, t8⟩; have H8 := Aside0.mk h8; have T8 := Aside0.mk t8; clear h8 t8)
                | (go_at_call 13; (with_reducible refine (read_f H8.out hrd).mono ?_); rintro e w9 ⟨v, rfl, hRv, b9⟩; have B9 := Aside0.mk b9; clear b9; obtain ⟨Ap, cp, rfl, hcp, hCp⟩ := Kd.R_reads hRv; have hform := own_form hRv; have CP := Aside0.mk hCp; clear hCp hRv))
              have ra9 := R_turn2 (R_turn2 RA.out T8.out) (Turn.below (tag := tg2) B9.out)
              have rb9 := R_turn (R_turn RB.out T8.out) (Turn.below (tag := tg2) B9.out)
              obtain ⟨A1, c1, e1, _, hCa⟩ := Kd.R_reads ra9
              injection e1 with e11 e12 e13
              subst e11 e13
              obtain ⟨A2, c2, e2, _, hCb⟩ := Kd.R_reads rb9
              injection e2 with e21 e22 e23
              subst e21 e23
              have hma : As.length ≤ xs.length := by omega
              have q1 := Kd.C_take CP.out hma
              have q2 := Kd.C_drop CP.out hma hcp
              have q3 := Kd.C_take hCb hn
              have y1 : xs.take As.length = As := by rw [HXS.out]; simp
              have y2 : xs.drop As.length = Bs.take n := by rw [HXS.out]; simp
              have y3 : (Bs.take n).length = n := by rw [List.length_take]; omega
              rw [y1] at q1
              rw [y2, y3] at q2
              rw [y3] at q3
              have Q1 := Aside0.mk q1
              have Q2 := Aside0.mk q2
              have Q3 := Aside0.mk q3
              have QA := Aside0.mk hCa
              have H9 := Aside0.mk (Dsk.below H8.out B9.out)
              have T9 := Aside0.mk (TT.out.trans (T8.out.trans (Turn.below (tag := tg2) B9.out)))
              clear q1 q2 q3 hCa hCb ra9 rb9 CP RA RB HXS y1 y2 B9 T8 TT H8 HBT
              have hoff : ((As.length : Int) + (n : Int) - (As.length : Int)) = (n : Int) := by omega
              by_cases hcz : cp = As.length
              · rw [if_pos hcz] at Q2
                go_region_held (fun w' => Below w9.heap.size w9 w') (first | exact below_drew1 (Below.refl _ w9) | assumption) (first
                | (go_at_call 14; (with_reducible refine (same_true _ _ _ _ _ As (Kd.C_below Q1.out (by assumption)) (by omega) (Kd.C_below QA.out (by assumption)) hca (by omega)).mono ?_); rintro e w10 ⟨rfl, hd⟩; have hB10 : Below w9.heap.size w9 w10 := below_step (by assumption) hd.below; clear hd Q1)
                | (go_at_call 14; (with_reducible refine (same_n _ _ _ _ _ (Bs.take n) n y3 (Kd.C_below Q2.out (by assumption)) (by omega) (Kd.C_below Q3.out (by assumption)) (by omega) (by omega)).mono ?_); rintro e w11 ⟨rfl, hd⟩; have hB11 : Below w9.heap.size w9 w11 := below_step (by assumption) hd.below; clear hd Q2)
                | (go_at_call 15; (with_reducible refine (down_dsk _ _ _ _ (Dsk.below H9.out (by assumption))).mono ?_); rintro e w13 ⟨he, rfl⟩; rw [hdn] at he; subst he)
                | (go_at_call 7; (with_reducible refine (awake_ok _).mono ?_); rintro e w12 ⟨rfl, t12⟩; have hB12 : Below w9.heap.size w9 w12 := below_step (by assumption) t12; clear t12))
                go_wp2
                go_ret
                exact ⟨rfl, below_step T9.out.noBelow hB12⟩
              · rw [if_neg hcz] at Q2
                rcases hform with ⟨rfl, hc0⟩ | ⟨g, rfl⟩
                · exfalso; omega
                · have hsz1 : As.length * (Kd.int .u8).sz = As.length := by simp [Kd.int, Kd.scalar]
                  rw [Option.map_some, hsz1, add0] at Q2
                  go_region_held (fun w' => Below w9.heap.size w9 w') (first | exact below_drew1 (Below.refl _ w9) | assumption) (first
                  | (go_at_call 14; (with_reducible refine (same_true _ _ _ _ _ As (Kd.C_below Q1.out (by assumption)) (by omega) (Kd.C_below QA.out (by assumption)) hca (by omega)).mono ?_); rintro e w10 ⟨rfl, hd⟩; have hB10 : Below w9.heap.size w9 w10 := below_step (by assumption) hd.below; clear hd Q1)
                  | (go_at_call 14; (with_reducible refine (same_n _ _ _ _ _ (Bs.take n) n y3 (Kd.C_below Q2.out (by assumption)) (by omega) (Kd.C_below Q3.out (by assumption)) (by omega) (by omega)).mono ?_); rintro e w11 ⟨rfl, hd⟩; have hB11 : Below w9.heap.size w9 w11 := below_step (by assumption) hd.below; clear hd Q2)
                  | (go_at_call 15; (with_reducible refine (down_dsk _ _ _ _ (Dsk.below H9.out (by assumption))).mono ?_); rintro e w13 ⟨he, rfl⟩; rw [hdn] at he; subst he)
                  | (go_at_call 7; (with_reducible refine (awake_ok _).mono ?_); rintro e w12 ⟨rfl, t12⟩; have hB12 : Below w9.heap.size w9 w12 := below_step (by assumption) t12; clear t12))
                  go_wp2
                  go_ret
                  exact ⟨rfl, below_step T9.out.noBelow hB12⟩
theorem DiskSure_row (A : Option Addr) (sure : List (List Int)) (ca : Nat) (T : Option Addr) (tail : List (List Int)) (ct : Nat) (keep fuse : Int) (w : World) (hS : Rows w noTag A sure ∧ sure.length ≤ maxLen) (hT : Rows w noTag T tail ∧ tail.length ≤ maxLen) (_ : (Lit.int .i64 keep).wf = true) (hf : (Lit.int .u8 fuse).wf = true) :
    Calls Try.prog 3 #[.slice A sure.length ca, .slice T tail.length ct, .int .i64 keep, .int .u8 fuse] w fun e w' => e = .returned (.bool true) ∧ Below w.heap.size w w' :=
  DiskSure_ok A sure ca T tail ct keep fuse w hS.1 hT.1 hS.2 hT.2 (bounds_u8 hf).1 (bounds_u8 hf).2
end Go.Proofs.Ytcblcffkppiclaa.Dk
