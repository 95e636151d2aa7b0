/- The law DiskRoom's walk. -/
import Derived.Test.YtcblcffkppiclaaDkGreat
namespace Go.Proofs.Ytcblcffkppiclaa.Dk
open Go.RowKit Go.Maps Go.Sort Go.Proofs.Ytcblcffkppiclaa.DkMap Go.Proofs.YtcblcffkppiclaaW.PrintWords Go.Proofs.YtcblcffkppiclaaW.PrintLast Go.Proofs.YtcblcffkppiclaaW.PrintMore Go.Proofs.Ytcblcffkppiclaa.PDiskNil
attribute [local go_sem] max2_int min2_int max_two min_two max_three min_three max_four min_four
set_option linter.unusedVariables false
set_option linter.unusedSimpArgs false
set_option linter.unusedSectionVars false
def usedOf (s : St) : Int := if s.down = true then 0 else (used s.fl : Int)
theorem used_dsk (w : World) (tag : Tags) (p : Nat) (st : St) (h : Dsk Try.prog w tag p st) : Calls Try.prog 17 #[.pointer (some ⟨p, 0, none⟩)] w fun e w' => e = .returned (.int .i64 (usedOf st)) ∧ w = w' := by
  obtain ⟨_, M, D, F, h⟩ := h
  exact Used_ok w tag p M D F _ st h
theorem putb_full (s : St) (n : List UInt8) (b : List Int) (h : (putb s n b).1 = 7) : (putb s n b).2 = s := by
  unfold putb at h ⊢
  split at h
  · cases h
  · split at h
    · cases h
    · split at h
      · rename_i h1 h2 h3; rw [if_neg h1, if_neg h2, if_pos h3]
      · cases h
theorem append_full (s : St) (n : List UInt8) (b : List Int) (h : (append s n b).1 = 7) : (append s n b).2 = burn s ∧ s.down = false := by
  unfold append at h ⊢
  split at h
  · cases h
  · split at h
    · cases h
    · rename_i h1 h2
      rw [if_neg h1, if_neg h2, putb_full _ _ _ h]
      exact ⟨rfl, by simpa using h1⟩
theorem deed_full (s : St) (n : List UInt8) (K : St → Fi → Int × St) (hK : ∀ s f, (K s f).1 ≠ 7) : (deed s n K).1 ≠ 7 := by
  unfold deed
  split
  · intro h; cases h
  · split
    · intro h; cases h
    · split
      · intro h; cases h
      · split
        · intro h; cases h
        · exact hK _ _
theorem act_full (s : St) (a : DAct) (h : (act s a).1 = 7) : usedOf (act s a).2 = usedOf s := by
  unfold act at h ⊢
  split at h
  · rename_i h1
    rw [if_pos h1]
    obtain ⟨e, hd⟩ := append_full _ _ _ h
    rw [e]
    unfold usedOf
    rw [burn_fl, burn_down]
  · exfalso
    split at h
    · refine deed_full s a.nm _ (fun _ _ => ?_) h
      simp
    · split at h
      · refine deed_full s a.nm _ (fun _ _ => ?_) h
        split
        · simp
        · split <;> simp
      · split at h
        · refine deed_full s a.nm _ (fun _ _ => ?_) h
          simp
        · split at h
          · refine deed_full s a.nm _ (fun _ _ => ?_) h
            split <;> simp
          · split at h
            · cases h
            · split at h <;> cases h
theorem append_room (s : St) (n : List UInt8) (b : List Int) : (append s n b).2.room = s.room := by
  have hp : ∀ s : St, (putb s n b).2.room = s.room := by
    intro s
    unfold putb
    split
    · rfl
    · split
      · rfl
      · split <;> rfl
  unfold append
  split
  · rfl
  · split
    · show (putb (burn s) n b).2.room = _; rw [hp, burn_room]
    · rw [hp, burn_room]
theorem deed_room (s : St) (n : List UInt8) (K : St → Fi → Int × St) (hK : ∀ s f, (K s f).2.room = s.room) : (deed s n K).2.room = s.room := by
  unfold deed
  split
  · rfl
  · split
    · rfl
    · split
      · exact burn_room s
      · split
        · exact burn_room s
        · rw [hK, burn_room]
theorem act_room (s : St) (a : DAct) : (act s a).2.room = s.room := by
  unfold act
  split
  · exact append_room _ _ _
  · split
    · exact deed_room _ _ _ (fun _ _ => rfl)
    · split
      · refine deed_room _ _ _ (fun _ _ => ?_)
        split
        · rfl
        · split <;> rfl
      · split
        · exact deed_room _ _ _ (fun _ _ => rfl)
        · split
          · refine deed_room _ _ _ (fun _ _ => ?_)
            split <;> rfl
          · split
            · rfl
            · split <;> rfl
theorem usedOf_le {w : World} {tag : Tags} {p : Nat} {s : St} (h : Dsk Try.prog w tag p s) : usedOf s ≤ s.room := by
  have := h.1.fits
  unfold usedOf
  split <;> omega
set_option maxHeartbeats 8000000 in
theorem DiskRoom_ok (r : Int) (A : Option Addr) (l : List DAct) (c : Nat) (w : World) (hr0 : 0 ≤ r) (hr1 : r ≤ 255) (hA : Acts w noTag A l) (hl : l.length ≤ maxLen) :
    Calls Try.prog 4 #[.int .u8 r, .slice A l.length c] w fun e w' => e = .returned (.bool true) ∧ Below w.heap.size w w' := by
  obtain ⟨R, rfl⟩ := Int.eq_ofNat_of_zero_le hr0
  have hN := Aside0.mk (New_ok w R (by omega))
  have hG := Aside0.mk (great_ok w noTag A l c hA hl)
  have HA := Aside0.mk hA
  have hwr : IntKind.i64.wrap (R : Int) = (R : Int) := (IntKind.wrap_i64 _).trans (by omega)
  clear hA
  go_enter Try.func4, Try.ntmps4
  go_wp2_with (first
    | (go_at_call 16; (with_reducible refine hG.out.mono ?_); rintro e w1 ⟨⟨g, rfl, hg⟩, rfl⟩; have HG := Aside0.mk hg; clear hg; cases g)
    | (go_at_call 7; (with_reducible refine (awake_ok _).mono ?_); rintro e w2 ⟨rfl, t2⟩)
    | (go_at_call 8; (with_reducible refine hN.out.mono ?_); rintro e w3 ⟨p, tag, rfl, h3, t3⟩; have H3 := Aside0.mk h3; have T3 := Aside0.mk t3; clear h3 t3))
  rotate_left
  · go_ret
    exact ⟨rfl, t2⟩
  · have hS := HG.out (by trivial)
    have HS := Aside0.mk hS.2
    have hl60 := hS.1
    have HA3 := Aside0.mk (HA.out.turn T3.out)
    clear HG hS hG hN HA
    go_loopw [6] (fun k wr => ∃ (j : Nat) (st : St) (tg : Tags), j ≤ l.length ∧ k = .int .i64 j ∧ st.room = R ∧ Aside0 (Dsk Try.prog wr tg p st) ∧ Aside0 (Acts wr tg A l) ∧ Aside0 (Turn w1 wr noTag tg)) (fun k _ => l.length - (intOf k).toNat)
    case atStart => exact ⟨0, _, tag, Nat.zero_le _, rfl, rfl, H3, HA3, T3⟩
    case round =>
      obtain ⟨j, st, tg, hj, rfl, hrm, hD, hAc, hT⟩ := hrel
      by_cases hlt : j < l.length
      · obtain ⟨ad, rfl, hbk, htn, ⟨s, t, B, cb, K, kc, c0, c1, c2, c3, c4, c5, es, et, hs, ht', hAA, hKK, hbl, hkl, hn⟩⟩ := hAc.out j hlt
        have hsm := (HS.out j hlt).b
        have HD := Aside0.mk (do_ok wr tg p st hD.out l[j] s t B cb K kc es et hs ht' hAA hKK hbl hkl hn (by omega))
        have q0 : wr.cell? (ad.add (j * 6)) = some (.int .i64 l[j].kind) := c0
        have q3 : wr.cell? ⟨(ad.add (j * 6)).block, (ad.add (j * 6)).off + 3, none⟩ = some (.slice B l[j].b.length cb) := by rw [add_field ad (j * 6) 2]; exact c3
        have q4 : wr.cell? ⟨(ad.add (j * 6)).block, (ad.add (j * 6)).off + 4, none⟩ = some (.int .i64 l[j].n) := by rw [add_field ad (j * 6) 3]; exact c4
        have q5 : wr.cell? ⟨(ad.add (j * 6)).block, (ad.add (j * 6)).off + 5, none⟩ = some (.slice K l[j].ks.length kc) := by rw [add_field ad (j * 6) 4]; exact c5
        have q1 : wr.cell? ⟨(ad.add (j * 6)).block, (ad.add (j * 6)).off + 1, none⟩ = some (.string s) := by rw [add_field ad (j * 6) 0]; exact c1
        have q2 : wr.cell? ⟨(ad.add (j * 6)).block, (ad.add (j * 6)).off + 2, none⟩ = some (.string t) := by rw [add_field ad (j * 6) 1]; exact c2
        have hf7 := act_full st l[j]
        have hrm2 := act_room st l[j]
        rw [hrm] at hrm2
        generalize act st l[j] = r at HD hf7 hrm2
        obtain ⟨rn, st2⟩ := r
        simp only at HD hf7 hrm2
        clear c0 c1 c2 c3 c4 c5 es et hs ht' hAA hKK hbl hkl hn hsm
        have H0 := Aside0.mk hD.out
        have hlea : usedOf st2 ≤ st2.room → ¬ (R : Int) < usedOf st2 := by intro h; omega
        by_cases h7 : rn = 7
        · have hu := hf7 h7
          subst h7
          go_wp2_with (first
            | (go_at_call 17; (with_reducible refine (used_dsk _ _ _ _ H0.out).mono ?_); rintro e w4 ⟨rfl, rfl⟩; clear H0)
            | (go_at_call 18; (with_reducible refine HD.out.mono ?_); rintro e w5 ⟨tg2, rfl, h5, t5⟩; have hle := hlea (usedOf_le h5); have H5 := Aside0.mk h5; have T5 := Aside0.mk t5; clear h5 t5 HD)
            | (go_at_call 17; (with_reducible refine (used_dsk _ _ _ _ H5.out).mono ?_); rintro e w6 ⟨rfl, rfl⟩))
          exact ⟨⟨j + 1, st2, tg2, by omega, rfl, hrm2, H5, ⟨hAc.out.turn T5.out⟩, ⟨hT.out.trans T5.out⟩⟩, by simp [intOf]; omega⟩
        · go_wp2_with (first
            | (go_at_call 17; (with_reducible refine (used_dsk _ _ _ _ H0.out).mono ?_); rintro e w4 ⟨rfl, rfl⟩; clear H0)
            | (go_at_call 18; (with_reducible refine HD.out.mono ?_); rintro e w5 ⟨tg2, rfl, h5, t5⟩; have hle := hlea (usedOf_le h5); have H5 := Aside0.mk h5; have T5 := Aside0.mk t5; clear h5 t5 HD)
            | (go_at_call 17; (with_reducible refine (used_dsk _ _ _ _ H5.out).mono ?_); rintro e w6 ⟨rfl, rfl⟩))
          exact ⟨⟨j + 1, st2, tg2, by omega, rfl, hrm2, H5, ⟨hAc.out.turn T5.out⟩, ⟨hT.out.trans T5.out⟩⟩, by simp [intOf]; omega⟩
      · have hB := Aside0.mk hT.out.noBelow
        go_wp2_with (go_at_call 7; (with_reducible refine (awake_ok _).mono ?_); rintro e w2 ⟨rfl, t2⟩)
        go_ret
        exact ⟨rfl, below_step hB.out t2⟩
end Go.Proofs.Ytcblcffkppiclaa.Dk
