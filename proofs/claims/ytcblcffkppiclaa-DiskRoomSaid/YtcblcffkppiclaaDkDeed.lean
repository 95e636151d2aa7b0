/- Deeds that go through. -/
import Derived.Test.YtcblcffkppiclaaDkSync
namespace Go.Proofs.Ytcblcffkppiclaa.Dk
open Go.RowKit Go.Maps Go.Proofs.Ytcblcffkppiclaa.DkMap Go.Proofs.YtcblcffkppiclaaW.PrintWords Go.Proofs.YtcblcffkppiclaaW.PrintLast Go.Proofs.YtcblcffkppiclaaW.PrintMore
attribute [local go_sem] max2_int min2_int max_two min_two max_three min_three max_four min_four
set_option linter.unusedVariables false
set_option linter.unusedSimpArgs false
set_option maxHeartbeats 4000000 in
theorem deed_go27 (w : World) (tag : Tags) (p : Nat) (st : St) (h : Dsk Try.prog w tag p st) (s : ByteArray) (hs : s.size ≤ maxLen) (hd : st.down = false) (hf : fails st = false) (hn : isName s.data.toList = true) (x : Fi) (hx : get st.fl s.data.toList = some x) (R : Ending → World → Prop)
    (hC : ∀ w2 M D F k, Dk w2 tag p M D F (used (burn st).fl) (burn st) → (burn st).Ok → Turn w w2 tag tag → F s.data.toList = some k → Calls Try.prog 27 #[.pointer (some ⟨k, 0, none⟩)] w2 fun e w' => (∃ n, e = .returned (.int .i64 n)) ∧ R e w') :
    Calls Try.prog 26 #[.pointer (some ⟨p, 0, none⟩), .string s, .func (.func 27) #[] #[]] w R := by
  have c4 := Dsk.cells h
  rw [hd] at c4
  have H := Aside0.mk h
  have HC := Aside0.mk hC
  have HX := Aside0.mk hx
  clear h hC hx
  go_enter Try.func26, Try.ntmps26
  go_wp2_with (first
    | (go_at_call 23; (with_reducible refine (spent_dsk _ _ _ _ H.out).mono ?_); rintro e w1 ⟨he, ⟨hok1, M, D, F, h1⟩, t1⟩; rw [hf] at he; subst he; obtain ⟨k, hk, _⟩ := h1.file s.data.toList x (by rw [burn_fl]; exact HX.out); have H1 := Aside0.mk h1; have T1 := Aside0.mk t1; have HK := Aside0.mk hk; have O1 := Aside0.mk hok1; clear h1 t1 hk hok1)
    | (go_at_call 31; (with_reducible refine (find_ok _ H1.out s hs hn k HK.out).mono ?_); rintro e w2 ⟨rfl, hb⟩; have B2 := Aside0.mk hb; clear hb)
    | (go_at_call 27; (with_reducible refine (HC.out w2 M D F k (IsDk.below H1.out B2.out) O1.out (T1.out.trans (Turn.below B2.out)) HK.out).mono ?_); rintro e w3 ⟨⟨n, rfl⟩, hr⟩))
  exact hr
set_option maxHeartbeats 4000000 in
theorem Sync_ok (w : World) (tag : Tags) (p : Nat) (st : St) (h : Dsk Try.prog w tag p st) (s : ByteArray) (hs : s.size ≤ maxLen) :
    Calls Try.prog 10 #[.pointer (some ⟨p, 0, none⟩), .string s] w fun e w' => e = .returned (.int .i64 (sync st s.data.toList).1) ∧ Dsk Try.prog w' tag p (sync st s.data.toList).2 ∧ Turn w w' tag tag := by
  have hOk := Ok_sync h.1 s.data.toList
  unfold sync at hOk ⊢
  by_cases hx : st.down = true ∨ fails st = true ∨ isName s.data.toList = false ∨ get st.fl s.data.toList = none
  · have HG := Aside0.mk (deed_stop w tag p st h s hs (.func (.func 27) #[] #[]) (fun (s' : St) (f : Fi) => ((0 : Int), { s' with fl := put s'.fl s.data.toList ⟨f.b, f.b.length⟩ })) hx)
    clear h hx hOk
    go_enter Try.func10, Try.ntmps10
    go_wp2_with (go_at_call 26; (with_reducible refine HG.out.mono ?_); rintro e w1 ⟨rfl, h1, t1⟩; have H1 := Aside0.mk h1; have T1 := Aside0.mk t1; clear h1 t1)
    go_ret
    exact ⟨rfl, H1.out, T1.out⟩
  · simp only [not_or, Bool.not_eq_true, Bool.not_eq_false] at hx
    obtain ⟨hd, hf, hn, hg⟩ := hx
    obtain ⟨x, hx⟩ := Option.ne_none_iff_exists'.1 hg
    have hR : ∀ K : St → Fi → Int × St, deed st s.data.toList K = K (burn st) x := by
      intro K
      unfold deed
      rw [if_neg (by rw [hd]; simp), if_neg (by rw [hf]; simp), if_neg (by rw [hn]; simp), hx]
    rw [hR] at hOk
    rw [hR]
    have HO := Aside0.mk hOk
    have hsu := used_put (burn st).fl s.data.toList ⟨x.b, x.b.length⟩
    rw [burn_fl, hx] at hsu
    simp at hsu
    have HU := Aside0.mk hsu
    have HD := fun w2 M D F k (h2 : Dk w2 tag p M D F (used (burn st).fl) (burn st)) (t2 : Turn w w2 tag tag) (hk : F s.data.toList = some k) =>
      Sync_c w2 tag p (burn st) h2 (by rw [burn_fl]; exact hx) hk
    have HG := Aside0.mk (deed_go27 w tag p st h s hs hd hf hn x hx (fun e w' => e = .returned (.int .i64 0) ∧ Dsk Try.prog w' tag p { burn st with fl := put (burn st).fl s.data.toList ⟨x.b, x.b.length⟩ } ∧ Turn w w' tag tag) (fun w2 M D F k h2 hok2 t2 hk => (HD w2 M D F k h2 t2 hk).mono (by
      rintro e w3 ⟨rfl, h3, t3⟩
      refine ⟨⟨_, rfl⟩, rfl, ⟨HO.out, M, D, F, ?_⟩, t2.trans t3⟩
      show IsDk Try.prog w3 tag p M D F ((used (put (burn st).fl s.data.toList ⟨x.b, x.b.length⟩) : Nat) : Int) _
      rw [burn_fl] at h3 ⊢
      rw [HU.out]
      exact h3)))
    clear hR h hx hg HD hOk hsu
    go_enter Try.func10, Try.ntmps10
    go_wp2_with (go_at_call 26; (with_reducible refine HG.out.mono ?_); rintro e w1 ⟨rfl, h1, t1⟩; have H1 := Aside0.mk h1; have T1 := Aside0.mk t1; clear h1 t1)
    go_ret
    exact ⟨rfl, H1.out, T1.out⟩
set_option maxHeartbeats 4000000 in
theorem Sync_nil (w : World) (s : Value) : Calls Try.prog 10 #[.pointer none, s] w fun e w' => e = .returned (.int .i64 1) ∧ w = w' := by
  go_enter Try.func10, Try.ntmps10
  go_wp2_with (go_at_call 26; (with_reducible refine (deed_nil _ _ _).mono ?_); rintro e w1 ⟨rfl, rfl⟩)
  go_ret
  exact ⟨rfl, rfl⟩
end Go.Proofs.Ytcblcffkppiclaa.Dk
