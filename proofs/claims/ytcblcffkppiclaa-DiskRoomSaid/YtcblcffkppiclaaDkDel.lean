/- Delete. -/
import Derived.Test.YtcblcffkppiclaaDkRem
namespace Go.Proofs.Ytcblcffkppiclaa.Dk
open Go.RowKit Go.Maps Go.Sort Go.Proofs.Ytcblcffkppiclaa.DkMap Go.Proofs.YtcblcffkppiclaaW.PrintWords Go.Proofs.YtcblcffkppiclaaW.PrintLast Go.Proofs.YtcblcffkppiclaaW.PrintMore Go.Proofs.Ytcblcffkppiclaa.PDiskNil
attribute [local go_sem] max2_int min2_int max_two min_two max_three min_three max_four min_four
set_option linter.unusedVariables false
set_option linter.unusedSimpArgs false
set_option maxHeartbeats 4000000 in
theorem deed_go34 (w : World) (tag : Tags) (p : Nat) (st : St) (h : Dsk Try.prog w tag p st) (s : ByteArray) (hs : s.size ≤ maxLen) (hd : st.down = false) (hf : fails st = false) (hn : isName s.data.toList = true) (x : Fi) (hx : get st.fl s.data.toList = some x) (b0 b1 b2 : Value) (R : Ending → World → Prop)
    (hC : ∀ w2 M D F k, Dk w2 tag p M D F (used (burn st).fl) (burn st) → (burn st).Ok → Turn w w2 tag tag → F s.data.toList = some k → Calls Try.prog 34 #[.pointer (some ⟨k, 0, none⟩), b0, b1, b2] w2 fun e w' => (∃ n, e = .returned (.int .i64 n)) ∧ R e w') :
    Calls Try.prog 26 #[.pointer (some ⟨p, 0, none⟩), .string s, .func (.func 34) #[] #[b0, b1, b2]] w R := by
  have c4 := Dsk.cells h
  rw [hd] at c4
  have H := Aside0.mk h
  have HC := Aside0.mk hC
  have HX := Aside0.mk hx
  clear h hC hx
  go_enter Try.func26, Try.ntmps26
  go_wp2_with (first
    | (go_at_call 23; (with_reducible refine (spent_dsk _ _ _ _ H.out).mono ?_); rintro e w1 ⟨he, ⟨hok1, M, D, F, h1⟩, t1⟩; rw [hf] at he; subst he; obtain ⟨k, hk, _⟩ := h1.file s.data.toList x (by rw [burn_fl]; exact HX.out); have H1 := Aside0.mk h1; have T1 := Aside0.mk t1; have HK := Aside0.mk hk; have O1 := Aside0.mk hok1; clear h1 t1 hk hok1)
    | (go_at_call 31; (with_reducible refine (find_ok _ H1.out s hs hn k HK.out).mono ?_); rintro e w2 ⟨rfl, hb⟩; have B2 := Aside0.mk hb; clear hb)
    | (go_at_call 34; (with_reducible refine (HC.out w2 M D F k (IsDk.below H1.out B2.out) O1.out (T1.out.trans (Turn.below B2.out)) HK.out).mono ?_); rintro e w3 ⟨⟨n, rfl⟩, hr⟩))
  exact hr
set_option maxHeartbeats 4000000 in
theorem deed_go37 (w : World) (tag : Tags) (p : Nat) (st : St) (h : Dsk Try.prog w tag p st) (s : ByteArray) (hs : s.size ≤ maxLen) (hd : st.down = false) (hf : fails st = false) (hn : isName s.data.toList = true) (x : Fi) (hx : get st.fl s.data.toList = some x) (b0 b1 : Value) (R : Ending → World → Prop)
    (hC : ∀ w2 M D F k, Dk w2 tag p M D F (used (burn st).fl) (burn st) → (burn st).Ok → Turn w w2 tag tag → F s.data.toList = some k → Calls Try.prog 37 #[.pointer (some ⟨k, 0, none⟩), b0, b1] w2 fun e w' => (∃ n, e = .returned (.int .i64 n)) ∧ R e w') :
    Calls Try.prog 26 #[.pointer (some ⟨p, 0, none⟩), .string s, .func (.func 37) #[] #[b0, b1]] w R := by
  have c4 := Dsk.cells h
  rw [hd] at c4
  have H := Aside0.mk h
  have HC := Aside0.mk hC
  have HX := Aside0.mk hx
  clear h hC hx
  go_enter Try.func26, Try.ntmps26
  go_wp2_with (first
    | (go_at_call 23; (with_reducible refine (spent_dsk _ _ _ _ H.out).mono ?_); rintro e w1 ⟨he, ⟨hok1, M, D, F, h1⟩, t1⟩; rw [hf] at he; subst he; obtain ⟨k, hk, _⟩ := h1.file s.data.toList x (by rw [burn_fl]; exact HX.out); have H1 := Aside0.mk h1; have T1 := Aside0.mk t1; have HK := Aside0.mk hk; have O1 := Aside0.mk hok1; clear h1 t1 hk hok1)
    | (go_at_call 31; (with_reducible refine (find_ok _ H1.out s hs hn k HK.out).mono ?_); rintro e w2 ⟨rfl, hb⟩; have B2 := Aside0.mk hb; clear hb)
    | (go_at_call 37; (with_reducible refine (HC.out w2 M D F k (IsDk.below H1.out B2.out) O1.out (T1.out.trans (Turn.below B2.out)) HK.out).mono ?_); rintro e w3 ⟨⟨n, rfl⟩, hr⟩))
  exact hr
set_option maxHeartbeats 4000000 in
theorem deed_go38 (w : World) (tag : Tags) (p : Nat) (st : St) (h : Dsk Try.prog w tag p st) (s : ByteArray) (hs : s.size ≤ maxLen) (hd : st.down = false) (hf : fails st = false) (hn : isName s.data.toList = true) (x : Fi) (hx : get st.fl s.data.toList = some x) (b0 b1 : Value) (R : Ending → World → Prop)
    (hC : ∀ w2 M D F k, Dk w2 tag p M D F (used (burn st).fl) (burn st) → (burn st).Ok → Turn w w2 tag tag → F s.data.toList = some k → Calls Try.prog 38 #[.pointer (some ⟨k, 0, none⟩), b0, b1] w2 fun e w' => (∃ n, e = .returned (.int .i64 n)) ∧ R e w') :
    Calls Try.prog 26 #[.pointer (some ⟨p, 0, none⟩), .string s, .func (.func 38) #[] #[b0, b1]] w R := by
  have c4 := Dsk.cells h
  rw [hd] at c4
  have H := Aside0.mk h
  have HC := Aside0.mk hC
  have HX := Aside0.mk hx
  clear h hC hx
  go_enter Try.func26, Try.ntmps26
  go_wp2_with (first
    | (go_at_call 23; (with_reducible refine (spent_dsk _ _ _ _ H.out).mono ?_); rintro e w1 ⟨he, ⟨hok1, M, D, F, h1⟩, t1⟩; rw [hf] at he; subst he; obtain ⟨k, hk, _⟩ := h1.file s.data.toList x (by rw [burn_fl]; exact HX.out); have H1 := Aside0.mk h1; have T1 := Aside0.mk t1; have HK := Aside0.mk hk; have O1 := Aside0.mk hok1; clear h1 t1 hk hok1)
    | (go_at_call 31; (with_reducible refine (find_ok _ H1.out s hs hn k HK.out).mono ?_); rintro e w2 ⟨rfl, hb⟩; have B2 := Aside0.mk hb; clear hb)
    | (go_at_call 38; (with_reducible refine (HC.out w2 M D F k (IsDk.below H1.out B2.out) O1.out (T1.out.trans (Turn.below B2.out)) HK.out).mono ?_); rintro e w3 ⟨⟨n, rfl⟩, hr⟩))
  exact hr
theorem Turn.cell {w w' : World} {tag tag' : Tags} (h : Turn w w' tag tag') {a : Addr} (hlt : a.block < w.heap.size) (ht : tag a.block = none) : w'.cell? a = w.cell? a := World.cell?_of_block (h.block _ hlt ht)
/-- A deed that goes through. -/
theorem deed_eq {st : St} {s : List UInt8} {x : Fi} (hd : st.down = false) (hf : fails st = false) (hn : isName s = true) (hx : get st.fl s = some x) (K : St → Fi → Int × St) : deed st s K = K (burn st) x := by
  unfold deed
  rw [if_neg (by rw [hd]; simp), if_neg (by rw [hf]; simp), if_neg (by rw [hn]; simp), hx]
set_option maxHeartbeats 4000000 in
theorem Delete_c (w : World) (tag : Tags) (p M : Nat) (D : DataW Unit) (F : List UInt8 → Option Nat) (st : St) (h : Dk w tag p M D F (used st.fl) st) (hok : st.Ok) (s : ByteArray) (hs : s.size ≤ maxLen) (k : Value) (bd bn : Addr) (hd : w.cell? bd = some (.pointer (some ⟨p, 0, none⟩))) (hn : w.cell? bn = some (.string s)) :
    Calls Try.prog 37 #[k, .pointer (some bd), .pointer (some bn)] w fun e w' => e = .returned (.int .i64 0) ∧ Dsk Try.prog w' tag p { st with fl := del st.fl s.data.toList } ∧ Turn w w' tag tag := by
  have H := Aside0.mk h
  have O := Aside0.mk hok
  clear h hok
  go_enter Try.func37, Try.ntmps37
  go_wp2_with (go_at_call 36; (with_reducible refine (remove_ok _ _ _ _ _ _ _ H.out O.out s hs).mono ?_); rintro e w1 ⟨rfl, ⟨D', F', h1, _⟩, t1⟩; have H1 := Aside0.mk h1; have T1 := Aside0.mk t1; clear h1 t1)
  go_ret
  exact ⟨rfl, ⟨Ok_del O.out _, M, D', F', H1.out⟩, T1.out⟩
set_option maxHeartbeats 4000000 in
theorem Delete_ok (w : World) (tag : Tags) (p : Nat) (st : St) (h : Dsk Try.prog w tag p st) (s : ByteArray) (hs : s.size ≤ maxLen) :
    Calls Try.prog 20 #[.pointer (some ⟨p, 0, none⟩), .string s] w fun e w' => e = .returned (.int .i64 (delete st s.data.toList).1) ∧ Dsk Try.prog w' tag p (delete st s.data.toList).2 ∧ Turn w w' tag tag := by
  unfold delete
  have hb := below_alloc (below_alloc (Below.refl w.heap.size w) (.cells #[.pointer (some ⟨p, 0, none⟩)] 24)) (.cells #[.string s] 9)
  have h2 := Dsk.below h hb
  have T2 := Aside0.mk (Turn.below (tag := tag) hb)
  have e1 := heap_alloc_new (w.alloc (.cells #[.pointer (some ⟨p, 0, none⟩)] 24)) (.cells #[.string s] 9)
  have e0 := (below_alloc (Below.refl (w.alloc (.cells #[.pointer (some ⟨p, 0, none⟩)] 24)).heap.size (w.alloc (.cells #[.pointer (some ⟨p, 0, none⟩)] 24))) (.cells #[.string s] 9)).block w.heap.size (by simp)
  rw [heap_alloc_new] at e0
  have hs1 : (w.alloc (.cells #[.pointer (some ⟨p, 0, none⟩)] 24)).heap.size = w.heap.size + 1 := by simp
  have hs2 : ((w.alloc (.cells #[.pointer (some ⟨p, 0, none⟩)] 24)).alloc (.cells #[.string s] 9)).heap.size = w.heap.size + 2 := by simp
  rw [hs1] at e1
  have n0 := Dsk.fresh h w.heap.size (Nat.le_refl _)
  have n1 := Dsk.fresh h (w.heap.size + 1) (by omega)
  by_cases hx : st.down = true ∨ fails st = true ∨ isName s.data.toList = false ∨ get st.fl s.data.toList = none
  · have HG := Aside0.mk (deed_stop _ tag p st h2 s hs (.func (.func 37) #[] #[.pointer (some ⟨w.heap.size, 0, none⟩), .pointer (some ⟨w.heap.size + 1, 0, none⟩)]) (fun (s' : St) (_ : Fi) => ((0 : Int), { s' with fl := del s'.fl s.data.toList })) hx)
    clear h hx h2 hb n0 n1 e0 e1
    go_enter Try.func20, Try.ntmps20
    go_wp2_with (go_at_call 26; (with_reducible refine HG.out.mono ?_); rintro e w1 ⟨rfl, h1, t1⟩; have H1 := Aside0.mk h1; have T1 := Aside0.mk t1; clear h1 t1)
    go_ret
    exact ⟨rfl, H1.out, T2.out.trans T1.out⟩
  · simp only [not_or, Bool.not_eq_true, Bool.not_eq_false] at hx
    obtain ⟨hd, hf, hn, hg⟩ := hx
    obtain ⟨x, hx⟩ := Option.ne_none_iff_exists'.1 hg
    rw [deed_eq hd hf hn hx]
    have HG := Aside0.mk (deed_go37 _ tag p st h2 s hs hd hf hn x hx (.pointer (some ⟨w.heap.size, 0, none⟩)) (.pointer (some ⟨w.heap.size + 1, 0, none⟩)) (fun e w' => e = .returned (.int .i64 0) ∧ Dsk Try.prog w' tag p { burn st with fl := del (burn st).fl s.data.toList } ∧ Turn _ w' tag tag) (fun w2 M D F k h3 hok2 t2 hk =>
      (Delete_c w2 tag p M D F (burn st) h3 hok2 s hs _ ⟨w.heap.size, 0, none⟩ ⟨w.heap.size + 1, 0, none⟩ ((t2.cell (by rw [hs2]; show w.heap.size < _; omega) n0).trans ((blk_cell e0 0).trans rfl)) ((t2.cell (by rw [hs2]; show w.heap.size + 1 < _; omega) n1).trans ((blk_cell e1 0).trans rfl))).mono (by
      rintro e w3 ⟨rfl, h4, t4⟩
      exact ⟨⟨_, rfl⟩, rfl, h4, t2.trans t4⟩)))
    clear h hx hg h2 hb n0 n1 e0 e1
    go_enter Try.func20, Try.ntmps20
    go_wp2_with (go_at_call 26; (with_reducible refine HG.out.mono ?_); rintro e w1 ⟨rfl, h1, t1⟩; have H1 := Aside0.mk h1; have T1 := Aside0.mk t1; clear h1 t1)
    go_ret
    exact ⟨rfl, H1.out, T2.out.trans T1.out⟩
end Go.Proofs.Ytcblcffkppiclaa.Dk
