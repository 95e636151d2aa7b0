/- A file is taken away. -/
import Derived.Test.YtcblcffkppiclaaDkNil
namespace Go.Proofs.Ytcblcffkppiclaa.Dk
open Go.RowKit Go.Maps Go.Sort Go.Proofs.Ytcblcffkppiclaa.DkMap Go.Proofs.YtcblcffkppiclaaW.PrintWords Go.Proofs.YtcblcffkppiclaaW.PrintLast Go.Proofs.YtcblcffkppiclaaW.PrintMore Go.Proofs.Ytcblcffkppiclaa.PDiskNil
attribute [local go_sem] max2_int min2_int max_two min_two max_three min_three max_four min_four
set_option linter.unusedVariables false
set_option linter.unusedSimpArgs false
theorem del_none {l : Fl} {s : List UInt8} (h : get l s = none) : del l s = l := by
  induction l with
  | nil => rfl
  | cons a r ih =>
    obtain ⟨k, y⟩ := a
    unfold get at h
    unfold del
    by_cases e : k = s
    · rw [if_pos e] at h; cases h
    · rw [if_neg e] at h ⊢; rw [ih h]
set_option maxHeartbeats 4000000 in
theorem remove_ok (w : World) (tag : Tags) (p M : Nat) (D : DataW Unit) (F : List UInt8 → Option Nat) (st : St) (h : Dk w tag p M D F (used st.fl) st) (hok : st.Ok) (s : ByteArray) (hs : s.size ≤ maxLen) :
    Calls Try.prog 36 #[.pointer (some ⟨p, 0, none⟩), .string s] w fun e w' => e = .returned (.tuple #[]) ∧ (∃ D' F', Dk w' tag p M D' F' (used (del st.fl s.data.toList)) { st with fl := del st.fl s.data.toList } ∧ ∀ t, t ≠ s.data.toList → F' t = F t) ∧ Turn w w' tag tag := by
  obtain ⟨c0, c1, c2, c3, c4⟩ := Dk.cells h
  cases hg : get st.fl s.data.toList with
  | none =>
    have hlk : (Instr.lookup 50 (.map (some M)) (.string s) false).run Try.prog w = .ok (.pointer none) w := Dk.look h s hs none (h.away _ hg)
    rw [del_none hg]
    have H := Aside0.mk h
    clear h hok hg
    go_enter Try.func36, Try.ntmps36
    go_wp2
    go_end0
    exact ⟨rfl, ⟨D, F, H.out, fun _ _ => rfl⟩, Turn.refl _ _⟩
  | some x =>
    obtain ⟨k, hk, v, e1, e2, e3⟩ := h.file _ _ hg
    have hlk : (Instr.lookup 50 (.map (some M)) (.string s) false).run Try.prog w = .ok (.pointer (some ⟨k, 0, none⟩)) w := Dk.look h s hs _ hk
    have hlen : ∃ A c, v = .slice A x.b.length c := by
      rcases e3 with ⟨rfl, e⟩ | ⟨R, cap, cur, rfl, _, e, _⟩
      · exact ⟨_, _, by rw [e]; rfl⟩
      · exact ⟨_, _, rfl⟩
    obtain ⟨A, c, rfl⟩ := hlen
    have f0 : w.cell? ⟨k, 0, none⟩ = some (.slice A x.b.length c) := (blk_cell e1 0).trans rfl
    have hux := get_used hg
    have hfits := hok.fits
    have hroom := hok.room
    have hw : IntKind.i64.wrap ((used st.fl : Int) - (x.b.length : Int)) = (used st.fl : Int) - x.b.length := (IntKind.wrap_i64 _).trans (by omega)
    have hz := Dk.froz h 1
    have hud : (used (del st.fl s.data.toList) : Int) = (used st.fl : Int) - x.b.length := by
      have := used_del st.fl s.data.toList
      rw [hg] at this
      simp at this
      omega
    have hkey := Go.WideMaps.keyOf_string_mk (P := Try.prog) Try.underlying9 hs
    have H := Aside0.mk h
    have HK := Aside0.mk hok.apart
    have HU := Aside0.mk hud
    have HY := Aside0.mk hkey
    clear h hok hg e1 e2 e3 hk hud hkey
    go_enter Try.func36, Try.ntmps36
    go_wp2
    go_region
    have h2 := IsDk.below (Dk.setUsed H.out ((used st.fl : Int) - x.b.length)) (below_drew1 (Below.refl _ _))
    have t2 := (Turn.head H.out 1 (.int .i64 ((used st.fl : Int) - x.b.length))).trans (Turn.below (tag := tag) (below_drew1 (Below.refl _ _)))
    generalize (w.setCell ⟨p, 1, none⟩ (.int .i64 ((used st.fl : Int) - x.b.length))).drew = w2 at h2 t2 ⊢
    clear c0 c1 c2 c3 c4 f0 hz hlk H
    obtain ⟨c0, c1, c2, c3, c4⟩ := Dk.cells h2
    have H2 := Aside0.mk h2
    have T2 := Aside0.mk t2
    clear h2 t2
    go_wp2_with (at_delete; refine wpList_delete_own _ rfl _ _ 50 9 rfl 55 K9 Try.underlying50 ptrElem M _ D rfl H2.out.mp.own _ (.string s.data.toList) rfl HY.out ?_; intro w3 hown hmt)
    go_end0
    obtain ⟨h3, t3⟩ := Dk.dropped H2.out HK.out hown hmt.grown
    refine ⟨rfl, ⟨_, _, by rw [HU.out]; exact h3, fun t ht => if_neg ht⟩, T2.out.trans t3⟩
end Go.Proofs.Ytcblcffkppiclaa.Dk
