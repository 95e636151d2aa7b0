/- Boot, at a disk. -/
import Derived.Test.YtcblcffkppiclaaDkBoot
import Derived.Test.YtcblcffkppiclaaDkCut
namespace Go.Proofs.Ytcblcffkppiclaa.Dk
open Go.RowKit Go.Maps Go.Sort Go.Proofs.Ytcblcffkppiclaa.DkMap Go.Proofs.YtcblcffkppiclaaW.PrintWords Go.Proofs.YtcblcffkppiclaaW.PrintLast Go.Proofs.YtcblcffkppiclaaW.PrintMore Go.Proofs.Ytcblcffkppiclaa.PDiskNil
attribute [local go_sem] max2_int min2_int max_two min_two max_three min_three max_four min_four
set_option linter.unusedVariables false
set_option linter.unusedSimpArgs false
/-- The numbers that tell what is kept, in memory: in a block that is not the disk's. -/
structure Kp (w : World) (tag : Tags) (A : Option Addr) (c : Nat) (l : List Int) : Prop where
  fits : l.length ≤ c
  cell : 0 < l.length → ∃ ad, A = some ad ∧ ad.block < w.heap.size ∧ tag ad.block = none ∧ ∀ j, j < l.length → w.cell? (ad.add j) = some (.int .i64 (l.getD j 0))
theorem Kp.turn {w w' : World} {tag tag' : Tags} {A : Option Addr} {c : Nat} {l : List Int} (h : Kp w tag A c l) (hT : Turn w w' tag tag') : Kp w' tag' A c l :=
  ⟨h.fits, fun hp => by
    obtain ⟨ad, e, h1, h2, h3⟩ := h.cell hp
    refine ⟨ad, e, Nat.lt_of_lt_of_le h1 hT.size, hT.tags _ h1 h2, fun j hj => ?_⟩
    have hbk : (ad.add j).block = ad.block := by unfold Addr.add; split <;> rfl
    rw [World.cell?_of_block (a := ad.add j) (w := w) (by rw [hbk]; exact hT.block ad.block h1 h2)]
    exact h3 j hj⟩
theorem Kp.tail {w : World} {tag : Tags} {ad : Addr} {c : Nat} {l : List Int} (h : Kp w tag (some ad) c l) (hp : 0 < l.length) : Kp w tag (some (ad.add 1)) (c - 1) l.tail := by
  refine ⟨by have := h.fits; rw [List.length_tail]; omega, fun hp2 => ?_⟩
  obtain ⟨ad', e, h1, h2, h3⟩ := h.cell hp
  injection e with e
  subst e
  have hbk : (ad.add 1).block = ad.block := by unfold Addr.add; split <;> rfl
  refine ⟨ad.add 1, rfl, by rw [hbk]; exact h1, by rw [hbk]; exact h2, fun j hj => ?_⟩
  rw [List.length_tail] at hj
  have e2 : (ad.add 1).add j = ad.add (j + 1) := by rw [Addr.add_add]; congr 1; omega
  rw [e2, h3 (j + 1) (by omega)]
  cases l with
  | nil => simp at hp
  | cons a r => simp [List.getD]
theorem modulo_f (a b : Int) (h0 : 0 < b) (h1 : b ≤ 2199023255552) : disk_modulo.f a b = some (a % b) := by
  unfold disk_modulo.f
  rw [if_neg (by omega)]
  have e1 : a.tmod b = a - b * a.tdiv b := Int.tmod_def a b
  have b1 : a.tmod b < b := Int.tmod_lt_of_pos a h0
  have b2 : -b < a.tmod b := by
    have := Int.tmod_lt_of_pos (-a) h0
    rw [Int.neg_tmod] at this
    omega
  have e2 : wrap64 (a.tmod b + b) = a.tmod b + b := by
    generalize a.tmod b = r at b1 b2
    unfold wrap64
    omega
  rw [e2, Int.tmod_eq_emod_of_nonneg (by omega), Int.add_emod_right, e1, Int.sub_mul_emod_self_left]
theorem bootL_no {s : List UInt8} {r : List (List UInt8)} {fl : Fl} {ks : List Int} {x : Fi} (hx : get fl s = some x) (h : ¬ (x.sure < x.b.length ∧ 0 < ks.length)) : bootL (s :: r) fl ks = bootL r (put fl s ⟨x.b, x.b.length⟩) ks := by
  rw [bootL, hx]
  simp only [if_neg h]
theorem bootL_yes {s : List UInt8} {r : List (List UInt8)} {fl : Fl} {ks : List Int} {x : Fi} (hx : get fl s = some x) (h : x.sure < x.b.length ∧ 0 < ks.length) : bootL (s :: r) fl ks = bootL r (put fl s (kept x (ks.getD 0 0))) ks.tail := by
  rw [bootL, hx]
  simp only [if_pos h]
theorem isSome_put {fl g : Fl} (h : ∀ s, (get fl s).isSome = (get g s).isSome) {n : List UInt8} {x : Fi} (hx : get fl n = some x) (y : Fi) (s : List UInt8) : (get (put fl n y) s).isSome = (get g s).isSome := by
  rw [get_put]
  split
  · rename_i e; rw [e, ← h, hx]; rfl
  · exact h s
theorem own_strs {w : World} {B : Nat} {v : Value} {n : Nat} {l : List (List UInt8)} (h : w.ownsRow B 9 1 v n (l.map encStr)) (hn : n = l.length) :
    ∃ A c, v = .slice A l.length c ∧ (0 < l.length → ∃ g, A = some ⟨g, 0, none⟩ ∧ B ≤ g ∧ g < w.heap.size ∧ ∀ j, j < l.length → w.cell? ⟨g, j, none⟩ = some (encStr (l.getD j []))) := by
  subst hn
  obtain ⟨_, h⟩ := h
  rcases h with ⟨rfl, h0⟩ | ⟨g, cap, cur, rfl, hb, hh, hle, hmx, hsz, htk⟩
  · exact ⟨none, 0, by rw [h0], fun hp => by omega⟩
  · refine ⟨_, cap, rfl, fun hp => ⟨g, rfl, hb, blk_lt hh, fun j hj => ?_⟩⟩
    rw [blk_cell hh j]
    have h4 := congrArg (fun l => l[j]?) htk
    simp only [List.getElem?_take, List.getElem?_map, Array.getElem?_toList] at h4
    rw [if_pos (by omega)] at h4
    rw [h4]
    simp [List.getD, hj]
set_option maxHeartbeats 8000000 in
set_option maxRecDepth 100000 in
theorem Boot_ok (w : World) (tag : Tags) (p : Nat) (st : St) (h : Dsk Try.prog w tag p st) (A : Option Addr) (c : Nat) (l : List Int) (hl : l.length ≤ 9223372036854775807) (hK : Kp w tag A c l) :
    Calls Try.prog 12 #[.pointer (some ⟨p, 0, none⟩), .slice A l.length c] w fun e w' => e = .returned (.tuple #[]) ∧ Dsk Try.prog w' tag p (boot st l) ∧ Turn w w' tag tag := by
  obtain ⟨hok, M, D, F, h⟩ := h
  obtain ⟨c0, c1, c2, c3, c4⟩ := Dk.cells h
  have z0 := Dk.froz h 4
  have h1 := Dk.setDown h false
  have z1 := Dk.froz h1 3
  have b3 := (Dk.cells h1).2.2.2.1
  have h2 := Dk.setFuse h1 (-1)
  have b2 := (Dk.cells h2).2.2.1
  have t2 : Turn w ((w.setCell ⟨p, 4, none⟩ (.bool false)).setCell ⟨p, 3, none⟩ (.int .i64 (-1))) tag tag := (Turn.head h _ _).trans (Turn.head h1 _ _)
  have hmax : Maps.size D ≤ maxLen := by have := hok.few; rw [h.size]; unfold maxLen; omega
  have hbytes : Maps.size D * 16 ≤ 140737488355328 := by have := hok.few; rw [h.size]; omega
  have HN := Aside0.mk (fun (ss : List (List UInt8)) (hS : ss.Perm (strKeys D)) => Dk.names_eq h hok.apart hS)
  have hok2 : ({ st with down := false, fuse := -1 } : St).Ok := ⟨hok.apart, hok.sure, hok.fits, hok.room, by simp, by simp, hok.few⟩
  have H2 := Aside0.mk h2
  have T2 := Aside0.mk t2
  have HK := Aside0.mk (hK.turn t2)
  have HO := Aside0.mk hok2
  have hc := callsIn_wide.1 (Try.slices_Sorted_keys_28_29 M st.fl.length D ptrElem _ h2.mp.own hmax hbytes)
  have hsz : ((w.setCell ⟨p, 4, none⟩ (.bool false)).setCell ⟨p, 3, none⟩ (.int .i64 (-1))).heap.size = w.heap.size := by simp
  rw [hsz] at hc
  have HC := Aside0.mk hc
  clear h1 h2 t2 hK hok hok2 h hc
  go_enter Try.func12, Try.ntmps12
  go_wp2_with (first
    | (go_at_call 29; (with_reducible refine ((callsIn_wide.1 (Try.maps_Keys_29 (some M) _))).mono ?_); rintro e wq ⟨rfl, rfl⟩)
    | (go_at_call 28; (with_reducible refine HC.out.mono ?_); rintro e w3 ⟨v, ss, rfl, hS, hrow, hnil, hb⟩; rw [HN.out ss hS] at hrow; obtain ⟨A2, cN, rfl, hcl⟩ := own_strs hrow (by rw [← HN.out ss hS, List.length_mergeSort]); have HR := Aside0.mk hcl; have HB := Aside0.mk hb; have HLE := Aside0.mk (fun x (hx : x ∈ strKeys D) => strKeys_le H2.out.mp.own Try.underlying9 x hx); have HS := Aside0.mk ((Dk.keysPerm H2.out HO.out.apart)); clear hrow hb hS hnil hcl))
  have hBa := below_alloc (Below.refl _ ((w.setCell ⟨p, 4, none⟩ (.bool false)).setCell ⟨p, 3, none⟩ (.int .i64 (-1)))) (.cells #[.map (some M)] 50)
  have hB3 := below_step hBa HB.out
  have h3 := IsDk.below H2.out hB3
  have t3 := Turn.below (tag := tag) hB3
  have k3 := HK.out.turn t3
  have T3 := T2.out.trans t3
  have hfew : (names st.fl).length ≤ 65536 := by rw [names_length]; exact HO.out.few
  have hle : ∀ x ∈ names st.fl, x.length ≤ maxLen := fun x hx => HLE.out x (HS.out.mem_iff.1 ((mem_keys _ _).2 ((names_mem _ _).1 hx)))
  have hrw : 0 < (names st.fl).length → ∃ g, A2 = some ⟨g, 0, none⟩ ∧ tag g = none ∧ g < w3.heap.size ∧ ∀ j, j < (names st.fl).length → w3.cell? ⟨g, j, none⟩ = some (encStr ((names st.fl).getD j [])) := fun hp => by
    obtain ⟨g, e1, e2, e3, e4⟩ := HR.out hp
    exact ⟨g, e1, H2.out.fresh g (Nat.le_trans hBa.size e2), e3, e4⟩
  have HLE2 := Aside0.mk hle
  have HRW := Aside0.mk hrw
  have H3 := Aside0.mk h3
  have K3 := Aside0.mk k3
  have TT := Aside0.mk T3
  clear hBa hB3 h3 t3 k3 T3 hle hrw HLE HS HR HB HK T2 H2 HC HN c0 c1 c2 c3 c4 z0 z1 b3 b2 hmax hbytes
  go_loopw [1, 5, 6, 7, 8, 9, 25] (fun kv _ _ _ _ _ iv wr => ∃ (j : Nat) (fl : Fl) (ks : List Int) (Ak : Option Addr) (ck : Nat), j ≤ (names st.fl).length ∧ ks.length ≤ l.length ∧ iv = .int .i64 j ∧ kv = .slice Ak ks.length ck ∧ Aside0 (bootL ((names st.fl).drop j) fl ks = bootL (names st.fl) st.fl l) ∧ Aside0 (Kp wr tag Ak ck ks) ∧ Aside0 (({ st with down := false, fuse := -1, fl := fl } : St).Ok) ∧ Aside0 (Dk wr tag p M D F (used fl) { st with down := false, fuse := -1, fl := fl }) ∧ Aside0 (∀ s, (get fl s).isSome = (get st.fl s).isSome) ∧ Aside0 (Turn w3 wr tag tag)) (fun _ _ _ _ _ _ iv _ => (names st.fl).length - (intOf iv).toNat)
  case atStart => exact ⟨0, st.fl, l, A, c, Nat.zero_le _, Nat.le_refl _, rfl, rfl, ⟨by simp⟩, K3, HO, H3, ⟨fun _ => rfl⟩, ⟨Turn.refl _ _⟩⟩
  case round =>
    obtain ⟨j, fl, ks, Ak, ck, hj, hkl, rfl, rfl, hb, hk, ho, hd, hi, ht⟩ := hrel
    by_cases hlt : j < (names st.fl).length
    · obtain ⟨g, rfl, hgt, hgs, hgc⟩ := HRW.out (by omega)
      have hnm : (names st.fl).getD j [] ∈ names st.fl := by rw [List.getD_eq_getElem?_getD, List.getElem?_eq_getElem hlt]; exact List.getElem_mem hlt
      have hdr : (names st.fl).drop j = (names st.fl).getD j [] :: (names st.fl).drop (j + 1) := by rw [List.drop_eq_getElem_cons hlt, List.getD_eq_getElem?_getD, List.getElem?_eq_getElem hlt]; rfl
      have hcj : wr.cell? ⟨g, j, none⟩ = some (encStr ((names st.fl).getD j [])) := (World.cell?_of_block (a := ⟨g, j, none⟩) (ht.out.block g hgs hgt)).trans (hgc j hlt)
      have hns := HLE2.out _ hnm
      have his := (names_mem _ _).1 hnm
      rw [← hi.out] at his
      have hb1 := hb.out
      rw [hdr] at hb1
      generalize (names st.fl).getD j [] = nm at hcj hns his hb1
      obtain ⟨x, hx⟩ := Option.isSome_iff_exists.1 his
      have hsure := ho.out.sure nm x hx
      have hux := get_used hx
      have hfits := ho.out.fits
      have hroom := ho.out.room
      simp only at hux hfits hroom
      obtain ⟨k, hk2, v, e1, e2, e3⟩ := hd.out.file nm x hx
      have hlen : ∃ A c, v = .slice A x.b.length c ∧ x.b.length ≤ c := by
        rcases e3 with ⟨rfl, e⟩ | ⟨R, cap, cur, rfl, _, e, _⟩
        · exact ⟨_, _, by rw [e]; rfl, by rw [e]; simp⟩
        · exact ⟨_, _, rfl, e⟩
      obtain ⟨A0, c0, rfl, hc0⟩ := hlen
      have f0 : wr.cell? ⟨k, 0, none⟩ = some (.slice A0 x.b.length c0) := (blk_cell e1 0).trans rfl
      have f1 : wr.cell? ⟨k, 1, none⟩ = some (.int .i64 x.sure) := (blk_cell e1 1).trans rfl
      have fz := blk_frozen e1 1
      have fy := blk_frozen e1 0
      obtain ⟨d0, d1, d2, d3, d4⟩ := Dk.cells hd.out
      have y1 := Dk.froz hd.out 1
      have hstr : encStr nm = .string ⟨⟨nm⟩⟩ := rfl
      rw [hstr] at hcj
      have hlk : (Instr.lookup 50 (.map (some M)) (.string ⟨⟨nm⟩⟩) false).run Try.prog wr = .ok (.pointer (some ⟨k, 0, none⟩)) wr := (Dk.lookup hd.out ⟨⟨nm⟩⟩ (by simpa [ByteArray.size] using hns)).trans (by rw [show F (ByteArray.mk (Array.mk nm)).data.toList = some k from hk2]; rfl)
      have hw6 : IntKind.i64.wrap ((x.b.length : Int) - (x.sure : Int)) = (x.b.length : Int) - x.sure := (IntKind.wrap_i64 _).trans (by omega)
      have E1 := Aside0.mk e1
      have E2 := Aside0.mk e2
      have E3 := Aside0.mk e3
      have HX := Aside0.mk hx
      have HK2 := Aside0.mk hk2
      have HB1 := Aside0.mk hb1
      clear e1 e2 e3 hx hk2 hb1 hb hgc hns his hnm hdr hstr
      by_cases hts : x.sure < x.b.length ∧ 0 < ks.length
      · obtain ⟨hts1, hts2⟩ := hts
        obtain ⟨ad, rfl, had1, had2, hadc⟩ := hk.out.cell hts2
        have k0c := hadc 0 hts2
        have hfk := hk.out.fits
        have hk2' := hk.out.tail hts2
        have hbm := bootL_yes (r := (names st.fl).drop (j + 1)) HX.out ⟨hts1, hts2⟩ (ks := ks)
        rw [HB1.out] at hbm
        generalize ks.getD 0 0 = k0 at k0c hbm
        have hmf := modulo_f k0 ((x.b.length : Int) - x.sure + 1) (by omega) (by omega)
        have hm0 := Int.emod_nonneg k0 (show (x.b.length : Int) - x.sure + 1 ≠ 0 by omega)
        have hm1 := Int.emod_lt_of_pos k0 (show 0 < (x.b.length : Int) - x.sure + 1 by omega)
        unfold kept at hbm
        generalize k0 % ((x.b.length : Int) - x.sure + 1) = mm at hmf hm0 hm1 hbm
        obtain ⟨m, rfl⟩ := Int.eq_ofNat_of_zero_le hm0
        rw [Int.toNat_natCast] at hbm
        have HMF := Aside0.mk hmf
        have HBM := Aside0.mk hbm
        have HK2' := Aside0.mk hk2'
        have hadd : (ad.add 0) = ad := by unfold Addr.add; simp
        rw [hadd] at k0c
        clear hmf hbm hk2' hadc hadd HB1
        have hte : (0 : Int) < (x.b.length : Int) - x.sure := by omega
        have hte2 : (0 : Int) < (ks.length : Int) := by omega
        obtain ⟨R, cap, cur, eA, e4, e5, e6, e7, e8, e9⟩ := E3.out.resolve_left (fun e => by have := e.2; rw [this] at hts1; simp at hts1)
        injection eA with eA1 eA2 eA3
        subst eA1
        subst eA3
        have hkp : k ≠ p := by intro e; have := E2.out; rw [e, hd.out.tp] at this; cases this
        have hpk : p ≠ k := fun e => hkp e.symm
        have hmn : x.sure + m ≤ x.b.length := by omega
        have hw8 : IntKind.i64.wrap ((used fl : Int) - ((x.b.length : Int) - x.sure - m)) = (used fl : Int) - ((x.b.length : Int) - x.sure - m) := (IntKind.wrap_i64 _).trans (by omega)
        have hn9 : (x.b.length : Int) - ((x.b.length : Int) - x.sure - m) = ((x.sure + m : Nat) : Int) := by omega
        have hmc : x.sure + m ≤ c0 := by omega
        have hOk := Ok_same ho.out nm x ⟨x.b.take (x.sure + m), x.sure + m⟩ HX.out (by show x.sure + m ≤ (x.b.take (x.sure + m)).length; rw [List.length_take]; omega) (by show (x.b.take (x.sure + m)).length ≤ _; rw [List.length_take]; omega)
        have hu2 : ((used (put fl nm ⟨x.b.take (x.sure + m), x.sure + m⟩) : Nat) : Int) = (used fl : Int) - ((x.b.length : Int) - x.sure - m) := by
          have := used_put fl nm ⟨x.b.take (x.sure + m), x.sure + m⟩
          rw [HX.out] at this
          simp at this
          omega
        have HOK := Aside0.mk hOk
        have HU2 := Aside0.mk hu2
        clear hOk hu2
        by_cases hcz : ck = 1
        · have hk1 : ks.length = 1 := by omega
          go_wp2
          go_region
          go_wp2_with (go_at_call 30; (with_reducible refine (disk_modulo.calls _ _ _ _ HMF.out).mono ?_); rintro e w6 ⟨rfl, hdr⟩; have e6 : w6.heap[k]? = some (.cells #[.slice (some ⟨R, 0, none⟩) x.b.length c0, .int .i64 x.sure] 57 (0, 0)) := ((hdr.below.block k (blk_lt E1.out)).trans E1.out); have hd6 := (IsDk.below (IsDk.below hd.out (below_drew1 (Below.refl _ wr))) hdr.below); have g0 : w6.cell? ⟨k, 0, none⟩ = some (.slice (some ⟨R, 0, none⟩) x.b.length c0) := ((blk_cell e6 0).trans rfl); have g1 := blk_frozen e6 0; have g2 := blk_frozen e6 1; obtain ⟨q0, q1, q2, q3, q4⟩ := Dk.cells hd6; have q5 := Dk.froz hd6 1; have hE3 := (E3.out.same (w' := w6) (tag' := tag) (fun jj hj => hdr.below.block jj (Dk.ltag hd.out hj)) (fun _ h => h)); obtain ⟨kF, dF, tF⟩ := (Dk.cutFile (n := x.sure + m) (u' := (used fl : Int) - ((x.b.length : Int) - x.sure - m)) hd6 HX.out HK2.out E2.out e6 hE3 hmn); have KF := Aside0.mk kF; have DF := Aside0.mk dF; have TF := Aside0.mk (ht.out.trans ((Turn.below (tag := tag) (below_drew1 (Below.refl _ wr))).trans ((Turn.below (tag := tag) hdr.below).trans tF))); have TK := Aside0.mk (((Turn.below (tag := tag) (below_drew1 (Below.refl _ wr))).trans ((Turn.below (tag := tag) hdr.below).trans tF))); clear hdr hd6 e6 q0 q2 q3 q4 hE3 kF dF tF)
          try simp only [hn9]
          clear HMF E1 E3 HK2 HO H3 K3 TT HRW HLE2
          go_region
          generalize ((w6.setCell ⟨k, 0, none⟩ (.slice (some ⟨R, 0, none⟩) (x.sure + m) (x.sure + m))).setCell ⟨p, 1, none⟩ (.int .i64 ((used fl : Int) - ((x.b.length : Int) - x.sure - m)))).drew = wF at KF DF TF TK ⊢
          clear g0 g1 g2 q1 q5
          have r0 : wF.cell? ⟨k, 0, none⟩ = some (.slice (some ⟨R, 0, none⟩) (x.sure + m) (x.sure + m)) := (blk_cell KF.out 0).trans rfl
          have r1 : wF.cell? ⟨k, 1, none⟩ = some (.int .i64 x.sure) := (blk_cell KF.out 1).trans rfl
          have r2 := blk_frozen KF.out 1
          go_wp2
          refine ⟨⟨j + 1, put fl nm ⟨x.b.take (x.sure + m), x.sure + m⟩, ks.tail, some ad, 0, by omega, by rw [List.length_tail]; omega, rfl, ?_, ⟨HBM.out.symm⟩, ⟨?_⟩, HOK, ⟨by rw [HU2.out]; exact DF.out⟩, ⟨isSome_put hi.out HX.out _⟩, TF⟩, by simp [intOf]; omega⟩
          · rw [List.length_tail, hk1]
          · exact ⟨by rw [List.length_tail]; omega, fun hp => by rw [List.length_tail] at hp; omega⟩
        · have hcz2 : ¬ ck - 1 = 0 := by omega
          go_wp2
          go_region
          go_wp2_with (go_at_call 30; (with_reducible refine (disk_modulo.calls _ _ _ _ HMF.out).mono ?_); rintro e w6 ⟨rfl, hdr⟩; have e6 : w6.heap[k]? = some (.cells #[.slice (some ⟨R, 0, none⟩) x.b.length c0, .int .i64 x.sure] 57 (0, 0)) := ((hdr.below.block k (blk_lt E1.out)).trans E1.out); have hd6 := (IsDk.below (IsDk.below hd.out (below_drew1 (Below.refl _ wr))) hdr.below); have g0 : w6.cell? ⟨k, 0, none⟩ = some (.slice (some ⟨R, 0, none⟩) x.b.length c0) := ((blk_cell e6 0).trans rfl); have g1 := blk_frozen e6 0; have g2 := blk_frozen e6 1; obtain ⟨q0, q1, q2, q3, q4⟩ := Dk.cells hd6; have q5 := Dk.froz hd6 1; have hE3 := (E3.out.same (w' := w6) (tag' := tag) (fun jj hj => hdr.below.block jj (Dk.ltag hd.out hj)) (fun _ h => h)); obtain ⟨kF, dF, tF⟩ := (Dk.cutFile (n := x.sure + m) (u' := (used fl : Int) - ((x.b.length : Int) - x.sure - m)) hd6 HX.out HK2.out E2.out e6 hE3 hmn); have KF := Aside0.mk kF; have DF := Aside0.mk dF; have TF := Aside0.mk (ht.out.trans ((Turn.below (tag := tag) (below_drew1 (Below.refl _ wr))).trans ((Turn.below (tag := tag) hdr.below).trans tF))); have TK := Aside0.mk (((Turn.below (tag := tag) (below_drew1 (Below.refl _ wr))).trans ((Turn.below (tag := tag) hdr.below).trans tF))); clear hdr hd6 e6 q0 q2 q3 q4 hE3 kF dF tF)
          try simp only [hn9]
          clear HMF E1 E3 HK2 HO H3 K3 TT HRW HLE2
          go_region
          generalize ((w6.setCell ⟨k, 0, none⟩ (.slice (some ⟨R, 0, none⟩) (x.sure + m) (x.sure + m))).setCell ⟨p, 1, none⟩ (.int .i64 ((used fl : Int) - ((x.b.length : Int) - x.sure - m)))).drew = wF at KF DF TF TK ⊢
          clear g0 g1 g2 q1 q5
          have r0 : wF.cell? ⟨k, 0, none⟩ = some (.slice (some ⟨R, 0, none⟩) (x.sure + m) (x.sure + m)) := (blk_cell KF.out 0).trans rfl
          have r1 : wF.cell? ⟨k, 1, none⟩ = some (.int .i64 x.sure) := (blk_cell KF.out 1).trans rfl
          have r2 := blk_frozen KF.out 1
          go_wp2
          refine ⟨⟨j + 1, put fl nm ⟨x.b.take (x.sure + m), x.sure + m⟩, ks.tail, some (ad.add 1), ck - 1, by omega, by rw [List.length_tail]; omega, rfl, ?_, ⟨HBM.out.symm⟩, ⟨?_⟩, HOK, ⟨by rw [HU2.out]; exact DF.out⟩, ⟨isSome_put hi.out HX.out _⟩, TF⟩, by simp [intOf]; omega⟩
          · rw [List.length_tail]; simp [Addr.add]
          · exact HK2'.out.turn TK.out
      · have hd5 := IsDk.below hd.out (below_drew1 (Below.refl _ wr))
        have hcs := setCells_same k [.int .i64 (x.b.length : Int)] 1 wr.drew
        have hW := Dk.wrote (y := ⟨x.b, x.b.length⟩) hd5 HX.out HK2.out E2.out (w4 := wr.drew.setCell ⟨k, 1, none⟩ (.int .i64 (x.b.length : Int))) (RTurn.refl hd5 nm) (E3.out.same (fun _ _ => rfl) (fun _ h => h)) (by rw [blk_set (show wr.drew.heap[k]? = _ from E1.out)]; simp) hcs.1 hcs.2.1 hcs.2.2.1 hcs.2.2.2 (fun j hj => Below.heap_setCell wr.drew ⟨k, 1, none⟩ _ j hj)
        have hOk := Ok_same ho.out nm x ⟨x.b, x.b.length⟩ HX.out (Nat.le_refl _) (Nat.le_refl _)
        have hsu := used_put fl nm ⟨x.b, x.b.length⟩
        rw [HX.out] at hsu
        have hsu2 : used (put fl nm ⟨x.b, x.b.length⟩) = used fl := by simp at hsu; exact hsu
        have hT5 := (Turn.below (tag := tag) (below_drew1 (Below.refl _ wr))).trans hW.2
        have HFIN : ∃ (fl' : Fl), Aside0 (bootL ((names st.fl).drop (j + 1)) fl' ks = bootL (names st.fl) st.fl l) ∧ Aside0 (Kp (wr.drew.setCell ⟨k, 1, none⟩ (.int .i64 (x.b.length : Int))) tag Ak ck ks) ∧ Aside0 (({ st with down := false, fuse := -1, fl := fl' } : St).Ok) ∧ Aside0 (Dk (wr.drew.setCell ⟨k, 1, none⟩ (.int .i64 (x.b.length : Int))) tag p M D F (used fl') { st with down := false, fuse := -1, fl := fl' }) ∧ Aside0 (∀ s, (get fl' s).isSome = (get st.fl s).isSome) ∧ Aside0 (Turn w3 (wr.drew.setCell ⟨k, 1, none⟩ (.int .i64 (x.b.length : Int))) tag tag) :=
          ⟨put fl nm ⟨x.b, x.b.length⟩, ⟨by rw [← HB1.out, bootL_no HX.out hts]⟩, ⟨hk.out.turn hT5⟩, ⟨hOk⟩, ⟨by rw [hsu2]; exact hW.1⟩, ⟨isSome_put hi.out HX.out _⟩, ⟨ht.out.trans hT5⟩⟩
        clear hd5 hcs hW hOk hsu hsu2 hT5 HB1 E1 E2 E3 HX HK2
        obtain ⟨fl', r1, r2, r3, r4, r5, r6⟩ := HFIN
        by_cases ht0 : x.sure < x.b.length
        · have hte : (0 : Int) < (x.b.length : Int) - x.sure := by omega
          have hte2 : ¬ (0 : Int) < (ks.length : Int) := by omega
          go_wp2
          go_region
          go_wp2
          exact ⟨⟨j + 1, fl', ks, Ak, ck, by omega, hkl, rfl, rfl, r1, r2, r3, r4, r5, r6⟩, by simp [intOf]; omega⟩
        · have hte : ¬ (0 : Int) < (x.b.length : Int) - x.sure := by omega
          go_wp2
          go_region
          go_wp2
          exact ⟨⟨j + 1, fl', ks, Ak, ck, by omega, hkl, rfl, rfl, r1, r2, r3, r4, r5, r6⟩, by simp [intOf]; omega⟩
    · go_wp2
      go_end0
      have e1 : bootL ((names st.fl).drop j) fl ks = fl := by rw [List.drop_eq_nil_of_le (by omega)]; rfl
      have e2 := hb.out
      rw [e1] at e2
      refine ⟨rfl, ⟨?_, M, D, F, ?_⟩, TT.out.trans ht.out⟩
      · unfold boot; rw [← e2]; exact ho.out
      · unfold boot; rw [← e2]; exact hd.out
end Go.Proofs.Ytcblcffkppiclaa.Dk
