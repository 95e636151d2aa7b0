/- A deed that stops; Sync; Read. -/
import Derived.Test.YtcblcffkppiclaaDkApp
namespace Go.Proofs.Ytcblcffkppiclaa.Dk
open Go.RowKit Go.Maps Go.Proofs.Ytcblcffkppiclaa.DkMap Go.Proofs.YtcblcffkppiclaaW.PrintWords Go.Proofs.YtcblcffkppiclaaW.PrintLast Go.Proofs.YtcblcffkppiclaaW.PrintMore
attribute [local go_sem] max2_int min2_int max_two min_two max_three min_three max_four min_four
set_option linter.unusedVariables false
set_option linter.unusedSimpArgs false
section
variable (w : World) (tag : Tags) (p : Nat) (st : St) (h : Dsk Try.prog w tag p st)
include h
theorem find_dsk (s : ByteArray) (hs : s.size ≤ maxLen) (e : Int) (he : e = if isName s.data.toList = false then 1 else 8) (hx : isName s.data.toList = false ∨ get st.fl s.data.toList = none) :
    Calls Try.prog 31 #[.pointer (some ⟨p, 0, none⟩), .string s] w fun r w' => r = .returned (.tuple #[.pointer none, .int .i64 e]) ∧ Below w.heap.size w w' := by
  obtain ⟨hok, M, D, F, h⟩ := h
  by_cases hn : isName s.data.toList = false
  · rw [if_pos hn] at he
    subst he
    exact find_bad w p s hs hn
  · rw [if_neg hn] at he
    subst he
    exact find_none w h s hs (by simpa using hn) (hx.resolve_left hn)
set_option maxHeartbeats 4000000 in
theorem deed_stop (s : ByteArray) (hs : s.size ≤ maxLen) (d : Value) (K : St → Fi → Int × St) (hx : st.down = true ∨ fails st = true ∨ isName s.data.toList = false ∨ get st.fl s.data.toList = none) :
    Calls Try.prog 26 #[.pointer (some ⟨p, 0, none⟩), .string s, d] w fun e w' => e = .returned (.int .i64 (deed st s.data.toList K).1) ∧ Dsk Try.prog w' tag p (deed st s.data.toList K).2 ∧ Turn w w' tag tag := by
  have c4 := Dsk.cells h
  have H := Aside0.mk h
  clear h
  cases hd : st.down
  · rw [hd] at c4 hx
    cases hf : fails st
    · rw [hf] at hx
      have hx : isName s.data.toList = false ∨ get st.fl s.data.toList = none := by simpa using hx
      have hE : ∃ e, e = (if isName s.data.toList = false then (1 : Int) else 8) ∧ (e = 1 ∨ e = 8) := ⟨_, rfl, by split <;> simp⟩
      obtain ⟨e0, he0, he1⟩ := hE
      have hne : (e0 != 0) = true := by rcases he1 with rfl | rfl <;> rfl
      have hR : deed st s.data.toList K = (e0, burn st) := by
        unfold deed
        rw [if_neg (by rw [hd]; simp), if_neg (by rw [hf]; simp), he0]
        by_cases hn : isName s.data.toList = false
        · rw [if_pos hn, if_pos hn]
        · rw [if_neg hn, if_neg hn, hx.resolve_left hn]
      rw [hR]
      clear hR he1
      have HX := Aside0.mk hx
      have HE := Aside0.mk he0
      clear hx he0
      have hne2 : ¬ e0 = 0 := by simpa using hne
      go_enter Try.func26, Try.ntmps26
      go_wp2_with (first
        | (go_at_call 23; (with_reducible refine (spent_dsk _ _ _ _ H.out).mono ?_); rintro e w1 ⟨he, h1, t1⟩; rw [hf] at he; subst he; have H1 := Aside0.mk h1; have T1 := Aside0.mk t1; clear h1 t1)
        | (go_at_call 31; (with_reducible refine (find_dsk _ _ _ _ H1.out s hs e0 HE.out (by rw [burn_fl]; exact HX.out)).mono ?_); rintro e w2 ⟨rfl, hb⟩; have B2 := Aside0.mk hb; clear hb))
      go_ret
      exact ⟨rfl, Dsk.below H1.out B2.out, T1.out.trans (Turn.below B2.out)⟩
    · have hR : deed st s.data.toList K = (15, { st with down := true }) := by
        unfold deed
        rw [if_neg (by rw [hd]; simp), if_pos hf]
      rw [hR]
      clear hR
      go_enter Try.func26, Try.ntmps26
      go_wp2_with (first
        | (go_at_call 23; (with_reducible refine (spent_dsk _ _ _ _ H.out).mono ?_); rintro e w1 ⟨he, h1, t1⟩; rw [hf] at he; subst he; have H1 := Aside0.mk h1; have T1 := Aside0.mk t1; clear h1 t1)
        | (go_at_call 25; (with_reducible refine (fail_dsk _ _ _ _ H1.out).mono ?_); rintro e w3 ⟨rfl, h3, t3⟩; have H3 := Aside0.mk h3; have T3 := Aside0.mk t3; clear h3 t3))
      go_ret
      have e1 : burn st = st := by unfold burn; rw [if_neg]; unfold fails at hf; have := of_decide_eq_true hf; omega
      rw [e1] at H3
      exact ⟨rfl, H3.out, T1.out.trans T3.out⟩
  · have hR : deed st s.data.toList K = (15, st) := by
      unfold deed
      rw [if_pos hd]
    rw [hR]
    clear hR
    rw [hd] at c4
    go_enter Try.func26, Try.ntmps26
    go_wp2
    go_ret
    exact ⟨rfl, H.out, Turn.refl _ _⟩
omit h in
set_option maxHeartbeats 4000000 in
theorem deed_nil (s d : Value) : Calls Try.prog 26 #[.pointer none, s, d] w fun e w' => e = .returned (.int .i64 1) ∧ w = w' := by
  go_enter Try.func26, Try.ntmps26
  go_wp2
  go_ret
  exact ⟨rfl, rfl⟩
omit h in
set_option maxHeartbeats 4000000 in
theorem Sync_c {M : Nat} {D : DataW Unit} {F : List UInt8 → Option Nat} {u : Int} {s : List UInt8} {x : Fi} {k : Nat} (h : Dk w tag p M D F u st) (hx : get st.fl s = some x) (hk : F s = some k) :
    Calls Try.prog 27 #[.pointer (some ⟨k, 0, none⟩)] w fun e w' => e = .returned (.int .i64 0) ∧ Dk w' tag p M D F u { st with fl := put st.fl s ⟨x.b, x.b.length⟩ } ∧ Turn w w' tag tag := by
  obtain ⟨k', hk', v, e1, e2, e3⟩ := h.file s x hx
  rw [hk] at hk'
  injection hk' with hk'
  subst hk'
  have hlen : ∃ A c, v = .slice A x.b.length c := by
    rcases e3 with ⟨rfl, e⟩ | ⟨R, cap, cur, rfl, _⟩
    · exact ⟨_, _, by rw [e]; rfl⟩
    · exact ⟨_, _, rfl⟩
  obtain ⟨A, c, rfl⟩ := hlen
  have f0 : w.cell? ⟨k, 0, none⟩ = some (.slice A x.b.length c) := (blk_cell e1 0).trans rfl
  have f1 : w.cell? ⟨k, 1, none⟩ = some (.int .i64 x.sure) := (blk_cell e1 1).trans rfl
  have fz := blk_frozen e1 1
  have hcs := setCells_same k [.int .i64 (x.b.length : Int)] 1 w
  have hW := Aside0.mk (Dk.wrote (y := ⟨x.b, x.b.length⟩) h hx hk e2 (w4 := w.setCell ⟨k, 1, none⟩ (.int .i64 (x.b.length : Int))) (RTurn.refl h s) e3 (by rw [blk_set e1]; simp) hcs.1 hcs.2.1 hcs.2.2.1 hcs.2.2.2 (fun j hj => Below.heap_setCell w ⟨k, 1, none⟩ _ j hj))
  clear h hcs e1 e2 e3
  go_enter Try.func27, Try.ntmps27
  go_wp2
  go_ret
  exact ⟨rfl, hW.out⟩
end
end Go.Proofs.Ytcblcffkppiclaa.Dk
