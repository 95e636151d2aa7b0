/- Deeds that go through. Read. Boot: the power fails and comes back. A file is cut: its row is shorter, and its capacity with it. Boot, at a disk. -/
import Derived.Test.YtcblcffkppiclaaDmB
import Derived.BigRegion
namespace Go.Proofs.Ytcblcffkppiclaa.Dk
open Go.RowKit Go.Maps Go.Proofs.Ytcblcffkppiclaa.DkMap Go.Proofs.YtcblcffkppiclaaW.PrintWords Go.Proofs.YtcblcffkppiclaaW.PrintLast Go.Proofs.YtcblcffkppiclaaW.PrintMore
attribute [local go_sem] max2_int min2_int max_two min_two max_three min_three max_four min_four
set_option linter.unusedVariables false
set_option linter.unusedSimpArgs false
set_option maxHeartbeats 4000000 in
theorem deed_go27 (w : World) (tag : Tags) (p : Nat) (st : St) (h : Dsk Try.prog w tag p st) (s : ByteArray) (hs : s.size ≤ maxLen) (hd : st.down = false) (hf : fails st = false) (hn : isName s.data.toList = true) (x : Fi) (hx : get st.fl s.data.toList = some x) (R : Ending → World → Prop)
    (hC : ∀ w2 M D F k, Dk w2 tag p M D F (used (burn st).fl) (burn st) → (burn st).Ok → Turn w w2 tag tag → F s.data.toList = some k → Calls Try.prog 27 #[.pointer (some ⟨k, 0, none⟩)] w2 fun e w' => (∃ n, e = .returned (.int .i64 n)) ∧ R e w') :
    Calls Try.prog 26 #[.pointer (some ⟨p, 0, none⟩), .string s, .func (.func 27) #[] #[]] w R := by
  have c4 := Dsk.cells h
  rw [hd] at c4
  have H := Aside0.mk h
  have HC := Aside0.mk hC
  have HX := Aside0.mk hx
  clear h hC hx
  go_enter Try.func26, Try.ntmps26
  go_wp2_with (first
    | (go_at_call 23; (with_reducible refine (spent_dsk _ _ _ _ H.out).mono ?_); rintro e w1 ⟨he, ⟨hok1, M, D, F, h1⟩, t1⟩; rw [hf] at he; subst he; obtain ⟨k, hk, _⟩ := h1.file s.data.toList x (by rw [burn_fl]; exact HX.out); have H1 := Aside0.mk h1; have T1 := Aside0.mk t1; have HK := Aside0.mk hk; have O1 := Aside0.mk hok1; clear h1 t1 hk hok1)
    | (go_at_call 31; (with_reducible refine (find_ok _ H1.out s hs hn k HK.out).mono ?_); rintro e w2 ⟨rfl, hb⟩; have B2 := Aside0.mk hb; clear hb)
    | (go_at_call 27; (with_reducible refine (HC.out w2 M D F k (IsDk.below H1.out B2.out) O1.out (T1.out.trans (Turn.below B2.out)) HK.out).mono ?_); rintro e w3 ⟨⟨n, rfl⟩, hr⟩))
  exact hr
set_option maxHeartbeats 4000000 in
theorem Sync_ok (w : World) (tag : Tags) (p : Nat) (st : St) (h : Dsk Try.prog w tag p st) (s : ByteArray) (hs : s.size ≤ maxLen) :
    Calls Try.prog 10 #[.pointer (some ⟨p, 0, none⟩), .string s] w fun e w' => e = .returned (.int .i64 (sync st s.data.toList).1) ∧ Dsk Try.prog w' tag p (sync st s.data.toList).2 ∧ Turn w w' tag tag := by
  have hOk := Ok_sync h.1 s.data.toList
  unfold sync at hOk ⊢
  by_cases hx : st.down = true ∨ fails st = true ∨ isName s.data.toList = false ∨ get st.fl s.data.toList = none
  · have HG := Aside0.mk (deed_stop w tag p st h s hs (.func (.func 27) #[] #[]) (fun (s' : St) (f : Fi) => ((0 : Int), { s' with fl := put s'.fl s.data.toList ⟨f.b, f.b.length⟩ })) hx)
    clear h hx hOk
    go_enter Try.func10, Try.ntmps10
    go_wp2_with (go_at_call 26; (with_reducible refine HG.out.mono ?_); rintro e w1 ⟨rfl, h1, t1⟩; have H1 := Aside0.mk h1; have T1 := Aside0.mk t1; clear h1 t1)
    go_ret
    exact ⟨rfl, H1.out, T1.out⟩
  · simp only [not_or, Bool.not_eq_true, Bool.not_eq_false] at hx
    obtain ⟨hd, hf, hn, hg⟩ := hx
    obtain ⟨x, hx⟩ := Option.ne_none_iff_exists'.1 hg
    have hR : ∀ K : St → Fi → Int × St, deed st s.data.toList K = K (burn st) x := by
      intro K
      unfold deed
      rw [if_neg (by rw [hd]; simp), if_neg (by rw [hf]; simp), if_neg (by rw [hn]; simp), hx]
    rw [hR] at hOk
    rw [hR]
    have HO := Aside0.mk hOk
    have hsu := used_put (burn st).fl s.data.toList ⟨x.b, x.b.length⟩
    rw [burn_fl, hx] at hsu
    simp at hsu
    have HU := Aside0.mk hsu
    have HD := fun w2 M D F k (h2 : Dk w2 tag p M D F (used (burn st).fl) (burn st)) (t2 : Turn w w2 tag tag) (hk : F s.data.toList = some k) =>
      Sync_c w2 tag p (burn st) h2 (by rw [burn_fl]; exact hx) hk
    have HG := Aside0.mk (deed_go27 w tag p st h s hs hd hf hn x hx (fun e w' => e = .returned (.int .i64 0) ∧ Dsk Try.prog w' tag p { burn st with fl := put (burn st).fl s.data.toList ⟨x.b, x.b.length⟩ } ∧ Turn w w' tag tag) (fun w2 M D F k h2 hok2 t2 hk => (HD w2 M D F k h2 t2 hk).mono (by
      rintro e w3 ⟨rfl, h3, t3⟩
      refine ⟨⟨_, rfl⟩, rfl, ⟨HO.out, M, D, F, ?_⟩, t2.trans t3⟩
      show IsDk Try.prog w3 tag p M D F ((used (put (burn st).fl s.data.toList ⟨x.b, x.b.length⟩) : Nat) : Int) _
      rw [burn_fl] at h3 ⊢
      rw [HU.out]
      exact h3)))
    clear hR h hx hg HD hOk hsu
    go_enter Try.func10, Try.ntmps10
    go_wp2_with (go_at_call 26; (with_reducible refine HG.out.mono ?_); rintro e w1 ⟨rfl, h1, t1⟩; have H1 := Aside0.mk h1; have T1 := Aside0.mk t1; clear h1 t1)
    go_ret
    exact ⟨rfl, H1.out, T1.out⟩
set_option maxHeartbeats 4000000 in
theorem Sync_nil (w : World) (s : Value) : Calls Try.prog 10 #[.pointer none, s] w fun e w' => e = .returned (.int .i64 1) ∧ w = w' := by
  go_enter Try.func10, Try.ntmps10
  go_wp2_with (go_at_call 26; (with_reducible refine (deed_nil _ _ _).mono ?_); rintro e w1 ⟨rfl, rfl⟩)
  go_ret
  exact ⟨rfl, rfl⟩
end Go.Proofs.Ytcblcffkppiclaa.Dk
namespace Go.Proofs.Ytcblcffkppiclaa.Dk
open Go.RowKit Go.Maps Go.Proofs.Ytcblcffkppiclaa.DkMap Go.Proofs.YtcblcffkppiclaaW.PrintWords Go.Proofs.YtcblcffkppiclaaW.PrintLast Go.Proofs.YtcblcffkppiclaaW.PrintMore Go.Proofs.Ytcblcffkppiclaa.PDiskNil
attribute [local go_sem] max2_int min2_int max_two min_two max_three min_three max_four min_four
set_option linter.unusedVariables false
set_option linter.unusedSimpArgs false
def read (s : St) (n : List UInt8) : List Int × Int :=
  if s.down = true then ([], 15) else if isName n = false then ([], 1) else match get s.fl n with
    | none => ([], 8)
    | some x => (x.b, 0)
theorem C_of_cells {w : World} {A : Option Addr} {ad : Addr} {l : List Int} (hA : A = some ad) (hl : l.length ≤ 9223372036854775807) (h : ∀ j, j < l.length → w.cell? (ad.add j) = some (.int .u8 (l.getD j 0))) : (Kd.int .u8).C w A l.length l :=
  Kd.C_of_reads (enc := Value.int .u8) (d := (0 : Int)) (h1 := fun _ => rfl) ⟨rfl, hl, fun _ => ⟨ad, hA, h⟩⟩
theorem add0 (g j : Nat) : (Addr.add ⟨g, 0, none⟩ j) = ⟨g, j, none⟩ := by by_cases h0 : j = 0 <;> simp [Addr.add, h0]
theorem FRow.C {w : World} {tag : Tags} {s : List UInt8} {v : Value} {xs : List Int} (h : FRow w tag s v xs) : ∃ A c, v = .slice A xs.length c ∧ xs.length ≤ c ∧ (Kd.int .u8).C w A xs.length xs := by
  rcases h with ⟨rfl, rfl⟩ | ⟨R, cap, cur, rfl, h2, h3, h4, h5, h6, h7⟩
  · exact ⟨none, 0, rfl, Nat.le_refl _, ⟨rfl, by simp, fun h => absurd h (by simp)⟩⟩
  · unfold maxLen at h5
    refine ⟨_, cap, rfl, h3, C_of_cells rfl (by omega) (fun j hj => ?_)⟩
    rw [add0]
    exact pre_cell h2 h6 (by rw [List.getD_eq_getElem?_getD, List.getElem?_eq_getElem hj]; rfl)
section
variable (w : World) (tag : Tags) (p : Nat) (st : St) (h : Dsk Try.prog w tag p st)
include h
set_option maxHeartbeats 4000000 in
theorem Read_ok (s : ByteArray) (hs : s.size ≤ maxLen) : Calls Try.prog 13 #[.pointer (some ⟨p, 0, none⟩), .string s] w fun e w' =>
    ∃ v, e = .returned (.tuple #[v, .int .i64 (read st s.data.toList).2]) ∧ (∃ B, w.heap.size ≤ B ∧ (Kd.int .u8).R 5 w' B (fun _ => True) v (read st s.data.toList).1) ∧ Below w.heap.size w w' := by
  have c4 := Dsk.cells h
  have H := Aside0.mk h
  cases hd : st.down
  · rw [hd] at c4
    by_cases hx : isName s.data.toList = false ∨ get st.fl s.data.toList = none
    · have hE : ∃ e, e = (if isName s.data.toList = false then (1 : Int) else 8) ∧ (e = 1 ∨ e = 8) := ⟨_, rfl, by split <;> simp⟩
      obtain ⟨e0, he0, he1⟩ := hE
      have hne2 : ¬ e0 = 0 := by omega
      have hR : read st s.data.toList = ([], e0) := by
        unfold read
        rw [if_neg (by rw [hd]; simp), he0]
        by_cases hn : isName s.data.toList = false
        · rw [if_pos hn, if_pos hn]
        · rw [if_neg hn, if_neg hn, hx.resolve_left hn]
      rw [hR]
      have HX := Aside0.mk hx
      have HE := Aside0.mk he0
      clear hx he0 hR he1 h
      go_enter Try.func13, Try.ntmps13
      go_wp2_with (go_at_call 31; (with_reducible refine (find_dsk _ _ _ _ H.out s hs e0 HE.out HX.out).mono ?_); rintro e w2 ⟨rfl, hb⟩; have B2 := Aside0.mk hb; clear hb)
      go_ret2
      exact ⟨_, rfl, ⟨_, Nat.le_refl _, Kd.R_nil _ _ _ _ _⟩, B2.out⟩
    · simp only [not_or, Bool.not_eq_false] at hx
      obtain ⟨hn, hg⟩ := hx
      obtain ⟨x, hx⟩ := Option.ne_none_iff_exists'.1 hg
      have hR : read st s.data.toList = (x.b, 0) := by
        unfold read
        rw [if_neg (by rw [hd]; simp), if_neg (by rw [hn]; simp), hx]
      rw [hR]
      obtain ⟨hok, M, D, F, hD⟩ := h
      obtain ⟨k, hk, hfb⟩ := hD.file _ _ hx
      have hux := get_used hx
      have hfits := hok.fits
      have hroom := hok.room
      have HD := Aside0.mk hD
      have HK := Aside0.mk hk
      have HF := Aside0.mk hfb
      have hcl : bytes_Clone.f x.b = some x.b := by unfold bytes_Clone.f; rw [if_pos (by omega)]
      have HCL := Aside0.mk hcl
      clear hx hg hR hok hD hk hfb hcl
      go_enter Try.func13, Try.ntmps13
      go_wp2_with (first
        | (go_at_call 31; (with_reducible refine (find_ok _ HD.out s hs hn k HK.out).mono ?_); rintro e w2 ⟨rfl, hb⟩; obtain ⟨v, e1, e2, e3⟩ := HF.out.same (w' := w2) (tag' := tag) (fun j hj => hb.block j (by rcases hj with hj | hj <;> exact Dk.ltag HD.out hj)) (fun _ _ _ h => h); obtain ⟨A, c, rfl, hc, hC⟩ := FRow.C e3; have f0 : w2.cell? ⟨k, 0, none⟩ = some (.slice A x.b.length c) := ((blk_cell e1 0).trans rfl); have CC := Aside0.mk hC; have B2 := Aside0.mk hb; clear hb e1 e2 e3 hC)
        | (go_at_call 32; (with_reducible refine (bytes_Clone.calls A c x.b x.b w2 CC.out hc HCL.out).mono ?_); rintro e w3 ⟨v0, rfl, hr, hb⟩; have RR := Aside0.mk hr; have B3 := Aside0.mk hb; clear hr hb))
      go_ret2
      exact ⟨_, rfl, ⟨_, B2.out.size, RR.out⟩, below_step B2.out B3.out⟩
  · have hR : read st s.data.toList = ([], 15) := by unfold read; rw [if_pos hd]
    rw [hR]
    rw [hd] at c4
    clear hR h
    go_enter Try.func13, Try.ntmps13
    go_wp2
    go_ret2
    exact ⟨_, rfl, ⟨_, Nat.le_refl _, Kd.R_nil _ _ _ _ _⟩, Below.refl _ _⟩
omit h in
set_option maxHeartbeats 4000000 in
theorem Read_nil (s : Value) : Calls Try.prog 13 #[.pointer none, s] w fun e w' => e = .returned (.tuple #[.slice none 0 0, .int .i64 1]) ∧ w = w' := by
  go_enter Try.func13, Try.ntmps13
  go_wp2
  go_ret2
  exact ⟨rfl, rfl⟩
end
end Go.Proofs.Ytcblcffkppiclaa.Dk
namespace Go.Proofs.Ytcblcffkppiclaa.Dk
open Go.RowKit Go.Maps Go.Sort Go.Proofs.Ytcblcffkppiclaa.DkMap Go.Proofs.YtcblcffkppiclaaW.PrintWords Go.Proofs.YtcblcffkppiclaaW.PrintLast Go.Proofs.YtcblcffkppiclaaW.PrintMore Go.Proofs.Ytcblcffkppiclaa.PDiskNil
attribute [local go_sem] max2_int min2_int max_two min_two max_three min_three max_four min_four
set_option linter.unusedVariables false
set_option linter.unusedSimpArgs false
/-- What becomes of one file. -/
def kept (x : Fi) (k : Int) : Fi := ⟨x.b.take (x.sure + (k % ((x.b.length : Int) - x.sure + 1)).toNat), x.sure + (k % ((x.b.length : Int) - x.sure + 1)).toNat⟩
def bootL : List (List UInt8) → Fl → List Int → Fl
  | [], fl, _ => fl
  | s :: r, fl, ks => match get fl s with
    | none => bootL r fl ks
    | some x => if x.sure < x.b.length ∧ 0 < ks.length then bootL r (put fl s (kept x (ks.getD 0 0))) ks.tail
      else bootL r (put fl s ⟨x.b, x.b.length⟩) ks
def names (l : Fl) : List (List UInt8) := (keys l).mergeSort (fun x y => decide (x ≤ y))
def boot (s : St) (ks : List Int) : St := { s with down := false, fuse := -1, fl := bootL (names s.fl) s.fl ks }
theorem Dk.keysPerm {w : World} {tag : Tags} {p M : Nat} {D : DataW Unit} {F : List UInt8 → Option Nat} {u : Int} {st : St} (h : Dk w tag p M D F u st) (hok : (keys st.fl).Nodup) : (keys st.fl).Perm (strKeys D) := by
  have hm : ∀ x, x ∈ keys st.fl ↔ Maps.has D (.string x) = true := by
    intro x
    rw [h.mp.has, mem_keys]
    cases hg : get st.fl x with
    | none => rw [h.away x hg]; simp
    | some y => obtain ⟨k, hk, _⟩ := h.file x y hg; rw [hk]; simp
  obtain ⟨es, rfl, hko⟩ := h.mp.own.keysOf
  obtain ⟨es2, he, hpw⟩ := h.mp.own.tidy K9
  injection he with he
  subst he
  exact perm_strKeys hpw (fun q hq => by obtain ⟨v, hv⟩ := hko q hq; obtain ⟨x, _, hx, _⟩ := Maps.keyOf_str Try.underlying9 hv; exact ⟨x, hx⟩) hok hm
theorem Dk.names_eq {w : World} {tag : Tags} {p M : Nat} {D : DataW Unit} {F : List UInt8 → Option Nat} {u : Int} {st : St} (h : Dk w tag p M D F u st) (hok : (keys st.fl).Nodup) {ss : List (List UInt8)} (hS : ss.Perm (strKeys D)) :
    ss.mergeSort (fun x y => decide (x ≤ y)) = names st.fl := mergeSort_of_perm (hS.trans (Dk.keysPerm h hok).symm)
theorem names_mem (l : Fl) (s : List UInt8) : s ∈ names l ↔ (get l s).isSome = true := by
  unfold names
  rw [List.mem_mergeSort, mem_keys]
theorem names_length (l : Fl) : (names l).length = l.length := by unfold names; rw [List.length_mergeSort, keys_len]
set_option maxHeartbeats 4000000 in
theorem Names_ok (w : World) (tag : Tags) (p : Nat) (st : St) (h : Dsk Try.prog w tag p st) : Calls Try.prog 22 #[.pointer (some ⟨p, 0, none⟩)] w fun e w' =>
    ∃ v, e = .returned v ∧ (∃ B, w.heap.size ≤ B ∧ w'.ownsRow B 9 1 v (if st.down = true then [] else names st.fl).length ((if st.down = true then [] else names st.fl).map encStr)) ∧ Below w.heap.size w w' := by
  obtain ⟨hok, M, D, F, h⟩ := h
  obtain ⟨c0, c1, c2, c3, c4⟩ := Dk.cells h
  have H := Aside0.mk h
  have hmax : Maps.size D ≤ maxLen := by have := hok.few; rw [h.size]; unfold maxLen; omega
  have hbytes : Maps.size D * 16 ≤ 140737488355328 := by have := hok.few; rw [h.size]; omega
  have HN := Aside0.mk (fun (ss : List (List UInt8)) (hS : ss.Perm (strKeys D)) => Dk.names_eq h hok.apart hS)
  clear h
  cases hd : st.down
  · go_enter Try.func22, Try.ntmps22
    go_wp2_with (first
      | (go_at_call 33; (with_reducible refine (up_ok _ _ _ _ _ _ _ _ H.out).mono ?_); rintro e w2 ⟨he, rfl⟩; rw [hd] at he; subst he)
      | (go_at_call 29; (with_reducible refine ((callsIn_wide.1 (Try.maps_Keys_29 (some M) w))).mono ?_); rintro e w2 ⟨rfl, rfl⟩)
      | (go_at_call 28; (with_reducible refine (callsIn_wide.1 (Try.slices_Sorted_keys_28_29 M st.fl.length D ptrElem w H.out.mp.own hmax hbytes)).mono ?_); rintro e w3 ⟨v, ss, rfl, hS, hrow, hnil, hb⟩))
    go_ret
    have hl : ss.length = (names st.fl).length := by rw [← HN.out ss hS, List.length_mergeSort]
    rw [HN.out ss hS, hl] at hrow
    have hb0 := below_alloc (Below.refl w.heap.size w) (.cells #[.map (some M)] 50)
    exact ⟨_, rfl, ⟨_, hb0.size, hrow⟩, below_step hb0 hb⟩
  · go_enter Try.func22, Try.ntmps22
    go_wp2_with (go_at_call 33; (with_reducible refine (up_ok _ _ _ _ _ _ _ _ H.out).mono ?_); rintro e w2 ⟨he, rfl⟩; rw [hd] at he; subst he)
    go_ret
    exact ⟨_, rfl, ⟨_, Nat.le_refl _, World.ownsRow_nil _ _ _ _⟩, Below.refl _ _⟩
set_option maxHeartbeats 4000000 in
theorem Boot_nil (w : World) (v : Value) : Calls Try.prog 12 #[.pointer none, v] w fun e w' => e = .returned (.tuple #[]) ∧ w = w' := by
  go_enter Try.func12, Try.ntmps12
  go_wp2
  refine bodyPost_ret (results_none rfl _ _ _) rfl ?_
  exact ⟨rfl, rfl⟩
set_option maxHeartbeats 4000000 in
theorem Names_nil (w : World) : Calls Try.prog 22 #[.pointer none] w fun e w' => e = .returned (.slice none 0 0) ∧ w = w' := by
  go_enter Try.func22, Try.ntmps22
  go_wp2_with (go_at_call 33; (with_reducible refine (up_nil _).mono ?_); rintro e w2 ⟨rfl, rfl⟩)
  go_ret
  exact ⟨rfl, rfl⟩
end Go.Proofs.Ytcblcffkppiclaa.Dk
namespace Go.Proofs.Ytcblcffkppiclaa.Dk
open Go.RowKit Go.Maps Go.Proofs.Ytcblcffkppiclaa.DkMap Go.Proofs.YtcblcffkppiclaaW.PrintWords Go.Proofs.YtcblcffkppiclaaW.PrintLast Go.Proofs.YtcblcffkppiclaaW.PrintMore
set_option linter.unusedVariables false
set_option linter.unusedSimpArgs false
theorem FRow.cut {w : World} {tag : Tags} {s : List UInt8} {R c : Nat} {xs : List Int} (h : FRow w tag s (.slice (some ⟨R, 0, none⟩) xs.length c) xs) {n : Nat} (hn : n ≤ xs.length) : FRow w tag s (.slice (some ⟨R, 0, none⟩) n n) (xs.take n) := by
  rcases h with ⟨e, _⟩ | ⟨R', cap, cur, e, h2, h3, h4, h5, h6, h7⟩
  · cases e
  · injection e with e1 e2 e3
    injection e1 with e1
    injection e1 with e1
    subst e1
    have hl : (xs.take n).length = n := by rw [List.length_take]; omega
    refine .inr ⟨R, n, cur, by rw [hl], h2, by omega, by omega, by omega, ?_, h7⟩
    rw [hl, List.map_take, ← h6, List.take_take]
    congr 1
    omega
/-- The three stores of a cut. -/
theorem Dk.cutFile {w : World} {tag : Tags} {p M : Nat} {D : DataW Unit} {F : List UInt8 → Option Nat} {u u' : Int} {st : St} {s : List UInt8} {x : Fi} {k R c n : Nat} (h : Dk w tag p M D F u st) (hx : get st.fl s = some x) (hF : F s = some k) (hk : tag k = some (.file s))
    (hb : w.heap[k]? = some (.cells #[.slice (some ⟨R, 0, none⟩) x.b.length c, .int .i64 x.sure] 57 (0, 0))) (hR : FRow w tag s (.slice (some ⟨R, 0, none⟩) x.b.length c) x.b) (hn : n ≤ x.b.length) :
    let wa := ((w.setCell ⟨k, 0, none⟩ (.slice (some ⟨R, 0, none⟩) n n)).setCell ⟨p, 1, none⟩ (.int .i64 u')).drew
    wa.heap[k]? = some (.cells #[.slice (some ⟨R, 0, none⟩) n n, .int .i64 x.sure] 57 (0, 0)) ∧ Dk (wa.setCell ⟨k, 1, none⟩ (.int .i64 n)) tag p M D F u' { st with fl := put st.fl s ⟨x.b.take n, n⟩ } ∧ Turn w (wa.setCell ⟨k, 1, none⟩ (.int .i64 n)) tag tag := by
  intro wa
  have hkp : k ≠ p := by intro e; have := hk; rw [e, h.tp] at this; cases this
  have hcs := setCells_same k [.slice (some ⟨R, 0, none⟩) n n] 0 w
  have k1 : (w.setCell ⟨k, 0, none⟩ (.slice (some ⟨R, 0, none⟩) n n)).heap[k]? = some (.cells #[.slice (some ⟨R, 0, none⟩) n n, .int .i64 x.sure] 57 (0, 0)) := by rw [blk_set hb]; simp
  obtain ⟨a1, a2⟩ := Dk.wrote (y := ⟨x.b.take n, x.sure⟩) h hx hF hk (w4 := w.setCell ⟨k, 0, none⟩ (.slice (some ⟨R, 0, none⟩) n n)) (RTurn.refl h s) (hR.cut hn) k1 hcs.1 hcs.2.1 hcs.2.2.1 hcs.2.2.2 (fun j hj => Below.heap_setCell w ⟨k, 0, none⟩ _ j hj)
  have b1 := Dk.setUsed a1 u'
  have b2 := Turn.head a1 1 (.int .i64 u')
  have k2 : wa.heap[k]? = some (.cells #[.slice (some ⟨R, 0, none⟩) n n, .int .i64 x.sure] 57 (0, 0)) := blk_far k1 (p := ⟨p, 1, none⟩) hkp _
  have hbw := below_drew1 (Below.refl ((w.setCell ⟨k, 0, none⟩ (.slice (some ⟨R, 0, none⟩) n n)).setCell ⟨p, 1, none⟩ (.int .i64 u')).heap.size ((w.setCell ⟨k, 0, none⟩ (.slice (some ⟨R, 0, none⟩) n n)).setCell ⟨p, 1, none⟩ (.int .i64 u')))
  have d1 := IsDk.below b1 hbw
  have d2 := Turn.below (tag := tag) hbw
  have hcs2 := setCells_same k [.int .i64 (n : Int)] 1 wa
  have hg1 : get (put st.fl s ⟨x.b.take n, x.sure⟩) s = some ⟨x.b.take n, x.sure⟩ := by rw [get_put, if_pos rfl]
  obtain ⟨k3, hk3, v3, e1, e2, e3⟩ := d1.file s _ hg1
  rw [hF] at hk3
  injection hk3 with hk3
  subst hk3
  have hv : v3 = .slice (some ⟨R, 0, none⟩) n n := by
    have := k2.symm.trans e1
    injection this with this
    injection this with this
    have := congrArg (fun a : Array Value => a[0]?) this
    simpa using this.symm
  subst hv
  obtain ⟨f1, f2⟩ := Dk.wrote (y := ⟨x.b.take n, n⟩) d1 hg1 hF hk (w4 := wa.setCell ⟨k, 1, none⟩ (.int .i64 n)) (RTurn.refl d1 s) e3 (by rw [blk_set k2]; simp) hcs2.1 hcs2.2.1 hcs2.2.2.1 hcs2.2.2.2 (fun j hj => Below.heap_setCell wa ⟨k, 1, none⟩ _ j hj)
  refine ⟨k2, ?_, a2.trans (b2.trans (d2.trans f2))⟩
  simp only [put_put] at f1
  exact f1
end Go.Proofs.Ytcblcffkppiclaa.Dk
namespace Go.Proofs.Ytcblcffkppiclaa.Dk
open Go.RowKit Go.Maps Go.Sort Go.Proofs.Ytcblcffkppiclaa.DkMap Go.Proofs.YtcblcffkppiclaaW.PrintWords Go.Proofs.YtcblcffkppiclaaW.PrintLast Go.Proofs.YtcblcffkppiclaaW.PrintMore Go.Proofs.Ytcblcffkppiclaa.PDiskNil
attribute [local go_sem] max2_int min2_int max_two min_two max_three min_three max_four min_four
set_option linter.unusedVariables false
set_option linter.unusedSimpArgs false
/-- The numbers that tell what is kept, in memory: in a block that is not the disk's. -/
structure Kp (w : World) (tag : Tags) (A : Option Addr) (c : Nat) (l : List Int) : Prop where
  fits : l.length ≤ c
  cell : 0 < l.length → ∃ ad, A = some ad ∧ ad.block < w.heap.size ∧ tag ad.block = none ∧ ∀ j, j < l.length → w.cell? (ad.add j) = some (.int .i64 (l.getD j 0))
theorem Kp.turn {w w' : World} {tag tag' : Tags} {A : Option Addr} {c : Nat} {l : List Int} (h : Kp w tag A c l) (hT : Turn w w' tag tag') : Kp w' tag' A c l :=
  ⟨h.fits, fun hp => by
    obtain ⟨ad, e, h1, h2, h3⟩ := h.cell hp
    refine ⟨ad, e, Nat.lt_of_lt_of_le h1 hT.size, hT.tags _ h1 h2, fun j hj => ?_⟩
    have hbk : (ad.add j).block = ad.block := by unfold Addr.add; split <;> rfl
    rw [World.cell?_of_block (a := ad.add j) (w := w) (by rw [hbk]; exact hT.block ad.block h1 h2)]
    exact h3 j hj⟩
theorem Kp.tail {w : World} {tag : Tags} {ad : Addr} {c : Nat} {l : List Int} (h : Kp w tag (some ad) c l) (hp : 0 < l.length) : Kp w tag (some (ad.add 1)) (c - 1) l.tail := by
  refine ⟨by have := h.fits; rw [List.length_tail]; omega, fun hp2 => ?_⟩
  obtain ⟨ad', e, h1, h2, h3⟩ := h.cell hp
  injection e with e
  subst e
  have hbk : (ad.add 1).block = ad.block := by unfold Addr.add; split <;> rfl
  refine ⟨ad.add 1, rfl, by rw [hbk]; exact h1, by rw [hbk]; exact h2, fun j hj => ?_⟩
  rw [List.length_tail] at hj
  have e2 : (ad.add 1).add j = ad.add (j + 1) := by rw [Addr.add_add]; congr 1; omega
  rw [e2, h3 (j + 1) (by omega)]
  cases l with
  | nil => simp at hp
  | cons a r => simp [List.getD]
theorem modulo_f (a b : Int) (h0 : 0 < b) (h1 : b ≤ 2199023255552) : disk_modulo.f a b = some (a % b) := by
  unfold disk_modulo.f
  rw [if_neg (by omega)]
  have e1 : a.tmod b = a - b * a.tdiv b := Int.tmod_def a b
  have b1 : a.tmod b < b := Int.tmod_lt_of_pos a h0
  have b2 : -b < a.tmod b := by
    have := Int.tmod_lt_of_pos (-a) h0
    rw [Int.neg_tmod] at this
    omega
  have e2 : wrap64 (a.tmod b + b) = a.tmod b + b := by
    generalize a.tmod b = r at b1 b2
    unfold wrap64
    omega
  rw [e2, Int.tmod_eq_emod_of_nonneg (by omega), Int.add_emod_right, e1, Int.sub_mul_emod_self_left]
theorem bootL_no {s : List UInt8} {r : List (List UInt8)} {fl : Fl} {ks : List Int} {x : Fi} (hx : get fl s = some x) (h : ¬ (x.sure < x.b.length ∧ 0 < ks.length)) : bootL (s :: r) fl ks = bootL r (put fl s ⟨x.b, x.b.length⟩) ks := by
  rw [bootL, hx]
  simp only [if_neg h]
theorem bootL_yes {s : List UInt8} {r : List (List UInt8)} {fl : Fl} {ks : List Int} {x : Fi} (hx : get fl s = some x) (h : x.sure < x.b.length ∧ 0 < ks.length) : bootL (s :: r) fl ks = bootL r (put fl s (kept x (ks.getD 0 0))) ks.tail := by
  rw [bootL, hx]
  simp only [if_pos h]
theorem isSome_put {fl g : Fl} (h : ∀ s, (get fl s).isSome = (get g s).isSome) {n : List UInt8} {x : Fi} (hx : get fl n = some x) (y : Fi) (s : List UInt8) : (get (put fl n y) s).isSome = (get g s).isSome := by
  rw [get_put]
  split
  · rename_i e; rw [e, ← h, hx]; rfl
  · exact h s
theorem own_strs {w : World} {B : Nat} {v : Value} {n : Nat} {l : List (List UInt8)} (h : w.ownsRow B 9 1 v n (l.map encStr)) (hn : n = l.length) :
    ∃ A c, v = .slice A l.length c ∧ (0 < l.length → ∃ g, A = some ⟨g, 0, none⟩ ∧ B ≤ g ∧ g < w.heap.size ∧ ∀ j, j < l.length → w.cell? ⟨g, j, none⟩ = some (encStr (l.getD j []))) := by
  subst hn
  obtain ⟨_, h⟩ := h
  rcases h with ⟨rfl, h0⟩ | ⟨g, cap, cur, rfl, hb, hh, hle, hmx, hsz, htk⟩
  · exact ⟨none, 0, by rw [h0], fun hp => by omega⟩
  · refine ⟨_, cap, rfl, fun hp => ⟨g, rfl, hb, blk_lt hh, fun j hj => ?_⟩⟩
    rw [blk_cell hh j]
    have h4 := congrArg (fun l => l[j]?) htk
    simp only [List.getElem?_take, List.getElem?_map, Array.getElem?_toList] at h4
    rw [if_pos (by omega)] at h4
    rw [h4]
    simp [List.getD, hj]
set_option maxHeartbeats 8000000 in
set_option maxRecDepth 100000 in
theorem Boot_ok (w : World) (tag : Tags) (p : Nat) (st : St) (h : Dsk Try.prog w tag p st) (A : Option Addr) (c : Nat) (l : List Int) (hl : l.length ≤ 9223372036854775807) (hK : Kp w tag A c l) :
    Calls Try.prog 12 #[.pointer (some ⟨p, 0, none⟩), .slice A l.length c] w fun e w' => e = .returned (.tuple #[]) ∧ Dsk Try.prog w' tag p (boot st l) ∧ Turn w w' tag tag := by
  obtain ⟨hok, M, D, F, h⟩ := h
  obtain ⟨c0, c1, c2, c3, c4⟩ := Dk.cells h
  have z0 := Dk.froz h 4
  have h1 := Dk.setDown h false
  have z1 := Dk.froz h1 3
  have b3 := (Dk.cells h1).2.2.2.1
  have h2 := Dk.setFuse h1 (-1)
  have b2 := (Dk.cells h2).2.2.1
  have t2 : Turn w ((w.setCell ⟨p, 4, none⟩ (.bool false)).setCell ⟨p, 3, none⟩ (.int .i64 (-1))) tag tag := (Turn.head h _ _).trans (Turn.head h1 _ _)
  have hmax : Maps.size D ≤ maxLen := by have := hok.few; rw [h.size]; unfold maxLen; omega
  have hbytes : Maps.size D * 16 ≤ 140737488355328 := by have := hok.few; rw [h.size]; omega
  have HN := Aside0.mk (fun (ss : List (List UInt8)) (hS : ss.Perm (strKeys D)) => Dk.names_eq h hok.apart hS)
  have hok2 : ({ st with down := false, fuse := -1 } : St).Ok := ⟨hok.apart, hok.sure, hok.fits, hok.room, by simp, by simp, hok.few⟩
  have H2 := Aside0.mk h2
  have T2 := Aside0.mk t2
  have HK := Aside0.mk (hK.turn t2)
  have HO := Aside0.mk hok2
  have hc := callsIn_wide.1 (Try.slices_Sorted_keys_28_29 M st.fl.length D ptrElem _ h2.mp.own hmax hbytes)
  have hsz : ((w.setCell ⟨p, 4, none⟩ (.bool false)).setCell ⟨p, 3, none⟩ (.int .i64 (-1))).heap.size = w.heap.size := by simp
  rw [hsz] at hc
  have HC := Aside0.mk hc
  clear h1 h2 t2 hK hok hok2 h hc
  go_enter Try.func12, Try.ntmps12
  go_wp2_with (first
    | (go_at_call 29; (with_reducible refine ((callsIn_wide.1 (Try.maps_Keys_29 (some M) _))).mono ?_); rintro e wq ⟨rfl, rfl⟩)
    | (go_at_call 28; (with_reducible refine HC.out.mono ?_); rintro e w3 ⟨v, ss, rfl, hS, hrow, hnil, hb⟩; rw [HN.out ss hS] at hrow; obtain ⟨A2, cN, rfl, hcl⟩ := own_strs hrow (by rw [← HN.out ss hS, List.length_mergeSort]); have HR := Aside0.mk hcl; have HB := Aside0.mk hb; have HLE := Aside0.mk (fun x (hx : x ∈ strKeys D) => strKeys_le H2.out.mp.own Try.underlying9 x hx); have HS := Aside0.mk ((Dk.keysPerm H2.out HO.out.apart)); clear hrow hb hS hnil hcl))
  have hBa := below_alloc (Below.refl _ ((w.setCell ⟨p, 4, none⟩ (.bool false)).setCell ⟨p, 3, none⟩ (.int .i64 (-1)))) (.cells #[.map (some M)] 50)
  have hB3 := below_step hBa HB.out
  have h3 := IsDk.below H2.out hB3
  have t3 := Turn.below (tag := tag) hB3
  have k3 := HK.out.turn t3
  have T3 := T2.out.trans t3
  have hfew : (names st.fl).length ≤ 65536 := by rw [names_length]; exact HO.out.few
  have hle : ∀ x ∈ names st.fl, x.length ≤ maxLen := fun x hx => HLE.out x (HS.out.mem_iff.1 ((mem_keys _ _).2 ((names_mem _ _).1 hx)))
  have hrw : 0 < (names st.fl).length → ∃ g, A2 = some ⟨g, 0, none⟩ ∧ tag g = none ∧ g < w3.heap.size ∧ ∀ j, j < (names st.fl).length → w3.cell? ⟨g, j, none⟩ = some (encStr ((names st.fl).getD j [])) := fun hp => by
    obtain ⟨g, e1, e2, e3, e4⟩ := HR.out hp
    exact ⟨g, e1, H2.out.fresh g (Nat.le_trans hBa.size e2), e3, e4⟩
  have HLE2 := Aside0.mk hle
  have HRW := Aside0.mk hrw
  have H3 := Aside0.mk h3
  have K3 := Aside0.mk k3
  have TT := Aside0.mk T3
  clear hBa hB3 h3 t3 k3 T3 hle hrw HLE HS HR HB HK T2 H2 HC HN c0 c1 c2 c3 c4 z0 z1 b3 b2 hmax hbytes
  go_loopw [1, 5, 6, 7, 8, 9, 25] (fun kv _ _ _ _ _ iv wr => ∃ (j : Nat) (fl : Fl) (ks : List Int) (Ak : Option Addr) (ck : Nat), j ≤ (names st.fl).length ∧ ks.length ≤ l.length ∧ iv = .int .i64 j ∧ kv = .slice Ak ks.length ck ∧ Aside0 (bootL ((names st.fl).drop j) fl ks = bootL (names st.fl) st.fl l) ∧ Aside0 (Kp wr tag Ak ck ks) ∧ Aside0 (({ st with down := false, fuse := -1, fl := fl } : St).Ok) ∧ Aside0 (Dk wr tag p M D F (used fl) { st with down := false, fuse := -1, fl := fl }) ∧ Aside0 (∀ s, (get fl s).isSome = (get st.fl s).isSome) ∧ Aside0 (Turn w3 wr tag tag)) (fun _ _ _ _ _ _ iv _ => (names st.fl).length - (intOf iv).toNat)
  case atStart => exact ⟨0, st.fl, l, A, c, Nat.zero_le _, Nat.le_refl _, rfl, rfl, ⟨by simp⟩, K3, HO, H3, ⟨fun _ => rfl⟩, ⟨Turn.refl _ _⟩⟩
  case round =>
    obtain ⟨j, fl, ks, Ak, ck, hj, hkl, rfl, rfl, hb, hk, ho, hd, hi, ht⟩ := hrel
    by_cases hlt : j < (names st.fl).length
    · obtain ⟨g, rfl, hgt, hgs, hgc⟩ := HRW.out (by omega)
      have hnm : (names st.fl).getD j [] ∈ names st.fl := by rw [List.getD_eq_getElem?_getD, List.getElem?_eq_getElem hlt]; exact List.getElem_mem hlt
      have hdr : (names st.fl).drop j = (names st.fl).getD j [] :: (names st.fl).drop (j + 1) := by rw [List.drop_eq_getElem_cons hlt, List.getD_eq_getElem?_getD, List.getElem?_eq_getElem hlt]; rfl
      have hcj : wr.cell? ⟨g, j, none⟩ = some (encStr ((names st.fl).getD j [])) := (World.cell?_of_block (a := ⟨g, j, none⟩) (ht.out.block g hgs hgt)).trans (hgc j hlt)
      have hns := HLE2.out _ hnm
      have his := (names_mem _ _).1 hnm
      rw [← hi.out] at his
      have hb1 := hb.out
      rw [hdr] at hb1
      generalize (names st.fl).getD j [] = nm at hcj hns his hb1
      obtain ⟨x, hx⟩ := Option.isSome_iff_exists.1 his
      have hsure := ho.out.sure nm x hx
      have hux := get_used hx
      have hfits := ho.out.fits
      have hroom := ho.out.room
      simp only at hux hfits hroom
      obtain ⟨k, hk2, v, e1, e2, e3⟩ := hd.out.file nm x hx
      have hlen : ∃ A c, v = .slice A x.b.length c ∧ x.b.length ≤ c := by
        rcases e3 with ⟨rfl, e⟩ | ⟨R, cap, cur, rfl, _, e, _⟩
        · exact ⟨_, _, by rw [e]; rfl, by rw [e]; simp⟩
        · exact ⟨_, _, rfl, e⟩
      obtain ⟨A0, c0, rfl, hc0⟩ := hlen
      have f0 : wr.cell? ⟨k, 0, none⟩ = some (.slice A0 x.b.length c0) := (blk_cell e1 0).trans rfl
      have f1 : wr.cell? ⟨k, 1, none⟩ = some (.int .i64 x.sure) := (blk_cell e1 1).trans rfl
      have fz := blk_frozen e1 1
      have fy := blk_frozen e1 0
      obtain ⟨d0, d1, d2, d3, d4⟩ := Dk.cells hd.out
      have y1 := Dk.froz hd.out 1
      have hstr : encStr nm = .string ⟨⟨nm⟩⟩ := rfl
      rw [hstr] at hcj
      have hlk : (Instr.lookup 50 (.map (some M)) (.string ⟨⟨nm⟩⟩) false).run Try.prog wr = .ok (.pointer (some ⟨k, 0, none⟩)) wr := (Dk.lookup hd.out ⟨⟨nm⟩⟩ (by simpa [ByteArray.size] using hns)).trans (by rw [show F (ByteArray.mk (Array.mk nm)).data.toList = some k from hk2]; rfl)
      have hw6 : IntKind.i64.wrap ((x.b.length : Int) - (x.sure : Int)) = (x.b.length : Int) - x.sure := (IntKind.wrap_i64 _).trans (by omega)
      have E1 := Aside0.mk e1
      have E2 := Aside0.mk e2
      have E3 := Aside0.mk e3
      have HX := Aside0.mk hx
      have HK2 := Aside0.mk hk2
      have HB1 := Aside0.mk hb1
      clear e1 e2 e3 hx hk2 hb1 hb hgc hns his hnm hdr hstr
      by_cases hts : x.sure < x.b.length ∧ 0 < ks.length
      · obtain ⟨hts1, hts2⟩ := hts
        obtain ⟨ad, rfl, had1, had2, hadc⟩ := hk.out.cell hts2
        have k0c := hadc 0 hts2
        have hfk := hk.out.fits
        have hk2' := hk.out.tail hts2
        have hbm := bootL_yes (r := (names st.fl).drop (j + 1)) HX.out ⟨hts1, hts2⟩ (ks := ks)
        rw [HB1.out] at hbm
        generalize ks.getD 0 0 = k0 at k0c hbm
        have hmf := modulo_f k0 ((x.b.length : Int) - x.sure + 1) (by omega) (by omega)
        have hm0 := Int.emod_nonneg k0 (show (x.b.length : Int) - x.sure + 1 ≠ 0 by omega)
        have hm1 := Int.emod_lt_of_pos k0 (show 0 < (x.b.length : Int) - x.sure + 1 by omega)
        unfold kept at hbm
        generalize k0 % ((x.b.length : Int) - x.sure + 1) = mm at hmf hm0 hm1 hbm
        obtain ⟨m, rfl⟩ := Int.eq_ofNat_of_zero_le hm0
        rw [Int.toNat_natCast] at hbm
        have HMF := Aside0.mk hmf
        have HBM := Aside0.mk hbm
        have HK2' := Aside0.mk hk2'
        have hadd : (ad.add 0) = ad := by unfold Addr.add; simp
        rw [hadd] at k0c
        clear hmf hbm hk2' hadc hadd HB1
        have hte : (0 : Int) < (x.b.length : Int) - x.sure := by omega
        have hte2 : (0 : Int) < (ks.length : Int) := by omega
        obtain ⟨R, cap, cur, eA, e4, e5, e6, e7, e8, e9⟩ := E3.out.resolve_left (fun e => by have := e.2; rw [this] at hts1; simp at hts1)
        injection eA with eA1 eA2 eA3
        subst eA1
        subst eA3
        have hkp : k ≠ p := by intro e; have := E2.out; rw [e, hd.out.tp] at this; cases this
        have hpk : p ≠ k := fun e => hkp e.symm
        have hmn : x.sure + m ≤ x.b.length := by omega
        have hw8 : IntKind.i64.wrap ((used fl : Int) - ((x.b.length : Int) - x.sure - m)) = (used fl : Int) - ((x.b.length : Int) - x.sure - m) := (IntKind.wrap_i64 _).trans (by omega)
        have hn9 : (x.b.length : Int) - ((x.b.length : Int) - x.sure - m) = ((x.sure + m : Nat) : Int) := by omega
        have hmc : x.sure + m ≤ c0 := by omega
        have hOk := Ok_same ho.out nm x ⟨x.b.take (x.sure + m), x.sure + m⟩ HX.out (by show x.sure + m ≤ (x.b.take (x.sure + m)).length; rw [List.length_take]; omega) (by show (x.b.take (x.sure + m)).length ≤ _; rw [List.length_take]; omega)
        have hu2 : ((used (put fl nm ⟨x.b.take (x.sure + m), x.sure + m⟩) : Nat) : Int) = (used fl : Int) - ((x.b.length : Int) - x.sure - m) := by
          have := used_put fl nm ⟨x.b.take (x.sure + m), x.sure + m⟩
          rw [HX.out] at this
          simp at this
          omega
        have HOK := Aside0.mk hOk
        have HU2 := Aside0.mk hu2
        clear hOk hu2
        by_cases hcz : ck = 1
        · have hk1 : ks.length = 1 := by omega
          go_wp2
          go_region
          go_wp2_with (go_at_call 30; (with_reducible refine (disk_modulo.calls _ _ _ _ HMF.out).mono ?_); rintro e w6 ⟨rfl, hdr⟩; have e6 : w6.heap[k]? = some (.cells #[.slice (some ⟨R, 0, none⟩) x.b.length c0, .int .i64 x.sure] 57 (0, 0)) := ((hdr.below.block k (blk_lt E1.out)).trans E1.out); have hd6 := (IsDk.below (IsDk.below hd.out (below_drew1 (Below.refl _ wr))) hdr.below); have g0 : w6.cell? ⟨k, 0, none⟩ = some (.slice (some ⟨R, 0, none⟩) x.b.length c0) := ((blk_cell e6 0).trans rfl); have g1 := blk_frozen e6 0; have g2 := blk_frozen e6 1; obtain ⟨q0, q1, q2, q3, q4⟩ := Dk.cells hd6; have q5 := Dk.froz hd6 1; have hE3 := (E3.out.same (w' := w6) (tag' := tag) (fun jj hj => hdr.below.block jj (Dk.ltag hd.out hj)) (fun _ h => h)); obtain ⟨kF, dF, tF⟩ := (Dk.cutFile (n := x.sure + m) (u' := (used fl : Int) - ((x.b.length : Int) - x.sure - m)) hd6 HX.out HK2.out E2.out e6 hE3 hmn); have KF := Aside0.mk kF; have DF := Aside0.mk dF; have TF := Aside0.mk (ht.out.trans ((Turn.below (tag := tag) (below_drew1 (Below.refl _ wr))).trans ((Turn.below (tag := tag) hdr.below).trans tF))); have TK := Aside0.mk (((Turn.below (tag := tag) (below_drew1 (Below.refl _ wr))).trans ((Turn.below (tag := tag) hdr.below).trans tF))); clear hdr hd6 e6 q0 q2 q3 q4 hE3 kF dF tF)
          try simp only [hn9]
          clear HMF E1 E3 HK2 HO H3 K3 TT HRW HLE2
          go_region
          generalize ((w6.setCell ⟨k, 0, none⟩ (.slice (some ⟨R, 0, none⟩) (x.sure + m) (x.sure + m))).setCell ⟨p, 1, none⟩ (.int .i64 ((used fl : Int) - ((x.b.length : Int) - x.sure - m)))).drew = wF at KF DF TF TK ⊢
          clear g0 g1 g2 q1 q5
          have r0 : wF.cell? ⟨k, 0, none⟩ = some (.slice (some ⟨R, 0, none⟩) (x.sure + m) (x.sure + m)) := (blk_cell KF.out 0).trans rfl
          have r1 : wF.cell? ⟨k, 1, none⟩ = some (.int .i64 x.sure) := (blk_cell KF.out 1).trans rfl
          have r2 := blk_frozen KF.out 1
          go_wp2
          refine ⟨⟨j + 1, put fl nm ⟨x.b.take (x.sure + m), x.sure + m⟩, ks.tail, some ad, 0, by omega, by rw [List.length_tail]; omega, rfl, ?_, ⟨HBM.out.symm⟩, ⟨?_⟩, HOK, ⟨by rw [HU2.out]; exact DF.out⟩, ⟨isSome_put hi.out HX.out _⟩, TF⟩, by simp [intOf]; omega⟩
          · rw [List.length_tail, hk1]
          · exact ⟨by rw [List.length_tail]; omega, fun hp => by rw [List.length_tail] at hp; omega⟩
        · have hcz2 : ¬ ck - 1 = 0 := by omega
          go_wp2
          go_region
          go_wp2_with (go_at_call 30; (with_reducible refine (disk_modulo.calls _ _ _ _ HMF.out).mono ?_); rintro e w6 ⟨rfl, hdr⟩; have e6 : w6.heap[k]? = some (.cells #[.slice (some ⟨R, 0, none⟩) x.b.length c0, .int .i64 x.sure] 57 (0, 0)) := ((hdr.below.block k (blk_lt E1.out)).trans E1.out); have hd6 := (IsDk.below (IsDk.below hd.out (below_drew1 (Below.refl _ wr))) hdr.below); have g0 : w6.cell? ⟨k, 0, none⟩ = some (.slice (some ⟨R, 0, none⟩) x.b.length c0) := ((blk_cell e6 0).trans rfl); have g1 := blk_frozen e6 0; have g2 := blk_frozen e6 1; obtain ⟨q0, q1, q2, q3, q4⟩ := Dk.cells hd6; have q5 := Dk.froz hd6 1; have hE3 := (E3.out.same (w' := w6) (tag' := tag) (fun jj hj => hdr.below.block jj (Dk.ltag hd.out hj)) (fun _ h => h)); obtain ⟨kF, dF, tF⟩ := (Dk.cutFile (n := x.sure + m) (u' := (used fl : Int) - ((x.b.length : Int) - x.sure - m)) hd6 HX.out HK2.out E2.out e6 hE3 hmn); have KF := Aside0.mk kF; have DF := Aside0.mk dF; have TF := Aside0.mk (ht.out.trans ((Turn.below (tag := tag) (below_drew1 (Below.refl _ wr))).trans ((Turn.below (tag := tag) hdr.below).trans tF))); have TK := Aside0.mk (((Turn.below (tag := tag) (below_drew1 (Below.refl _ wr))).trans ((Turn.below (tag := tag) hdr.below).trans tF))); clear hdr hd6 e6 q0 q2 q3 q4 hE3 kF dF tF)
          try simp only [hn9]
          clear HMF E1 E3 HK2 HO H3 K3 TT HRW HLE2
          go_region
          generalize ((w6.setCell ⟨k, 0, none⟩ (.slice (some ⟨R, 0, none⟩) (x.sure + m) (x.sure + m))).setCell ⟨p, 1, none⟩ (.int .i64 ((used fl : Int) - ((x.b.length : Int) - x.sure - m)))).drew = wF at KF DF TF TK ⊢
          clear g0 g1 g2 q1 q5
          have r0 : wF.cell? ⟨k, 0, none⟩ = some (.slice (some ⟨R, 0, none⟩) (x.sure + m) (x.sure + m)) := (blk_cell KF.out 0).trans rfl
          have r1 : wF.cell? ⟨k, 1, none⟩ = some (.int .i64 x.sure) := (blk_cell KF.out 1).trans rfl
          have r2 := blk_frozen KF.out 1
          go_wp2
          refine ⟨⟨j + 1, put fl nm ⟨x.b.take (x.sure + m), x.sure + m⟩, ks.tail, some (ad.add 1), ck - 1, by omega, by rw [List.length_tail]; omega, rfl, ?_, ⟨HBM.out.symm⟩, ⟨?_⟩, HOK, ⟨by rw [HU2.out]; exact DF.out⟩, ⟨isSome_put hi.out HX.out _⟩, TF⟩, by simp [intOf]; omega⟩
          · rw [List.length_tail]; simp [Addr.add]
          · exact HK2'.out.turn TK.out
      · have hd5 := IsDk.below hd.out (below_drew1 (Below.refl _ wr))
        have hcs := setCells_same k [.int .i64 (x.b.length : Int)] 1 wr.drew
        have hW := Dk.wrote (y := ⟨x.b, x.b.length⟩) hd5 HX.out HK2.out E2.out (w4 := wr.drew.setCell ⟨k, 1, none⟩ (.int .i64 (x.b.length : Int))) (RTurn.refl hd5 nm) (E3.out.same (fun _ _ => rfl) (fun _ h => h)) (by rw [blk_set (show wr.drew.heap[k]? = _ from E1.out)]; simp) hcs.1 hcs.2.1 hcs.2.2.1 hcs.2.2.2 (fun j hj => Below.heap_setCell wr.drew ⟨k, 1, none⟩ _ j hj)
        have hOk := Ok_same ho.out nm x ⟨x.b, x.b.length⟩ HX.out (Nat.le_refl _) (Nat.le_refl _)
        have hsu := used_put fl nm ⟨x.b, x.b.length⟩
        rw [HX.out] at hsu
        have hsu2 : used (put fl nm ⟨x.b, x.b.length⟩) = used fl := by simp at hsu; exact hsu
        have hT5 := (Turn.below (tag := tag) (below_drew1 (Below.refl _ wr))).trans hW.2
        have HFIN : ∃ (fl' : Fl), Aside0 (bootL ((names st.fl).drop (j + 1)) fl' ks = bootL (names st.fl) st.fl l) ∧ Aside0 (Kp (wr.drew.setCell ⟨k, 1, none⟩ (.int .i64 (x.b.length : Int))) tag Ak ck ks) ∧ Aside0 (({ st with down := false, fuse := -1, fl := fl' } : St).Ok) ∧ Aside0 (Dk (wr.drew.setCell ⟨k, 1, none⟩ (.int .i64 (x.b.length : Int))) tag p M D F (used fl') { st with down := false, fuse := -1, fl := fl' }) ∧ Aside0 (∀ s, (get fl' s).isSome = (get st.fl s).isSome) ∧ Aside0 (Turn w3 (wr.drew.setCell ⟨k, 1, none⟩ (.int .i64 (x.b.length : Int))) tag tag) :=
          ⟨put fl nm ⟨x.b, x.b.length⟩, ⟨by rw [← HB1.out, bootL_no HX.out hts]⟩, ⟨hk.out.turn hT5⟩, ⟨hOk⟩, ⟨by rw [hsu2]; exact hW.1⟩, ⟨isSome_put hi.out HX.out _⟩, ⟨ht.out.trans hT5⟩⟩
        clear hd5 hcs hW hOk hsu hsu2 hT5 HB1 E1 E2 E3 HX HK2
        obtain ⟨fl', r1, r2, r3, r4, r5, r6⟩ := HFIN
        by_cases ht0 : x.sure < x.b.length
        · have hte : (0 : Int) < (x.b.length : Int) - x.sure := by omega
          have hte2 : ¬ (0 : Int) < (ks.length : Int) := by omega
          go_wp2
          go_region
          go_wp2
          exact ⟨⟨j + 1, fl', ks, Ak, ck, by omega, hkl, rfl, rfl, r1, r2, r3, r4, r5, r6⟩, by simp [intOf]; omega⟩
        · have hte : ¬ (0 : Int) < (x.b.length : Int) - x.sure := by omega
          go_wp2
          go_region
          go_wp2
          exact ⟨⟨j + 1, fl', ks, Ak, ck, by omega, hkl, rfl, rfl, r1, r2, r3, r4, r5, r6⟩, by simp [intOf]; omega⟩
    · go_wp2
      go_end0
      have e1 : bootL ((names st.fl).drop j) fl ks = fl := by rw [List.drop_eq_nil_of_le (by omega)]; rfl
      have e2 := hb.out
      rw [e1] at e2
      refine ⟨rfl, ⟨?_, M, D, F, ?_⟩, TT.out.trans ht.out⟩
      · unfold boot; rw [← e2]; exact ho.out
      · unfold boot; rw [← e2]; exact hd.out
end Go.Proofs.Ytcblcffkppiclaa.Dk
