/- A file is cut: its row is shorter, and its capacity with it. -/
import Derived.Test.YtcblcffkppiclaaDkRead
namespace Go.Proofs.Ytcblcffkppiclaa.Dk
open Go.RowKit Go.Maps Go.Proofs.Ytcblcffkppiclaa.DkMap Go.Proofs.YtcblcffkppiclaaW.PrintWords Go.Proofs.YtcblcffkppiclaaW.PrintLast Go.Proofs.YtcblcffkppiclaaW.PrintMore
set_option linter.unusedVariables false
set_option linter.unusedSimpArgs false
theorem FRow.cut {w : World} {tag : Tags} {s : List UInt8} {R c : Nat} {xs : List Int} (h : FRow w tag s (.slice (some ⟨R, 0, none⟩) xs.length c) xs) {n : Nat} (hn : n ≤ xs.length) : FRow w tag s (.slice (some ⟨R, 0, none⟩) n n) (xs.take n) := by
  rcases h with ⟨e, _⟩ | ⟨R', cap, cur, e, h2, h3, h4, h5, h6, h7⟩
  · cases e
  · injection e with e1 e2 e3
    injection e1 with e1
    injection e1 with e1
    subst e1
    have hl : (xs.take n).length = n := by rw [List.length_take]; omega
    refine .inr ⟨R, n, cur, by rw [hl], h2, by omega, by omega, by omega, ?_, h7⟩
    rw [hl, List.map_take, ← h6, List.take_take]
    congr 1
    omega
/-- The three stores of a cut. -/
theorem Dk.cutFile {w : World} {tag : Tags} {p M : Nat} {D : DataW Unit} {F : List UInt8 → Option Nat} {u u' : Int} {st : St} {s : List UInt8} {x : Fi} {k R c n : Nat} (h : Dk w tag p M D F u st) (hx : get st.fl s = some x) (hF : F s = some k) (hk : tag k = some (.file s))
    (hb : w.heap[k]? = some (.cells #[.slice (some ⟨R, 0, none⟩) x.b.length c, .int .i64 x.sure] 57 (0, 0))) (hR : FRow w tag s (.slice (some ⟨R, 0, none⟩) x.b.length c) x.b) (hn : n ≤ x.b.length) :
    let wa := ((w.setCell ⟨k, 0, none⟩ (.slice (some ⟨R, 0, none⟩) n n)).setCell ⟨p, 1, none⟩ (.int .i64 u')).drew
    wa.heap[k]? = some (.cells #[.slice (some ⟨R, 0, none⟩) n n, .int .i64 x.sure] 57 (0, 0)) ∧ Dk (wa.setCell ⟨k, 1, none⟩ (.int .i64 n)) tag p M D F u' { st with fl := put st.fl s ⟨x.b.take n, n⟩ } ∧ Turn w (wa.setCell ⟨k, 1, none⟩ (.int .i64 n)) tag tag := by
  intro wa
  have hkp : k ≠ p := by intro e; have := hk; rw [e, h.tp] at this; cases this
  have hcs := setCells_same k [.slice (some ⟨R, 0, none⟩) n n] 0 w
  have k1 : (w.setCell ⟨k, 0, none⟩ (.slice (some ⟨R, 0, none⟩) n n)).heap[k]? = some (.cells #[.slice (some ⟨R, 0, none⟩) n n, .int .i64 x.sure] 57 (0, 0)) := by rw [blk_set hb]; simp
  obtain ⟨a1, a2⟩ := Dk.wrote (y := ⟨x.b.take n, x.sure⟩) h hx hF hk (w4 := w.setCell ⟨k, 0, none⟩ (.slice (some ⟨R, 0, none⟩) n n)) (RTurn.refl h s) (hR.cut hn) k1 hcs.1 hcs.2.1 hcs.2.2.1 hcs.2.2.2 (fun j hj => Below.heap_setCell w ⟨k, 0, none⟩ _ j hj)
  have b1 := Dk.setUsed a1 u'
  have b2 := Turn.head a1 1 (.int .i64 u')
  have k2 : wa.heap[k]? = some (.cells #[.slice (some ⟨R, 0, none⟩) n n, .int .i64 x.sure] 57 (0, 0)) := blk_far k1 (p := ⟨p, 1, none⟩) hkp _
  have hbw := below_drew1 (Below.refl ((w.setCell ⟨k, 0, none⟩ (.slice (some ⟨R, 0, none⟩) n n)).setCell ⟨p, 1, none⟩ (.int .i64 u')).heap.size ((w.setCell ⟨k, 0, none⟩ (.slice (some ⟨R, 0, none⟩) n n)).setCell ⟨p, 1, none⟩ (.int .i64 u')))
  have d1 := IsDk.below b1 hbw
  have d2 := Turn.below (tag := tag) hbw
  have hcs2 := setCells_same k [.int .i64 (n : Int)] 1 wa
  have hg1 : get (put st.fl s ⟨x.b.take n, x.sure⟩) s = some ⟨x.b.take n, x.sure⟩ := by rw [get_put, if_pos rfl]
  obtain ⟨k3, hk3, v3, e1, e2, e3⟩ := d1.file s _ hg1
  rw [hF] at hk3
  injection hk3 with hk3
  subst hk3
  have hv : v3 = .slice (some ⟨R, 0, none⟩) n n := by
    have := k2.symm.trans e1
    injection this with this
    injection this with this
    have := congrArg (fun a : Array Value => a[0]?) this
    simpa using this.symm
  subst hv
  obtain ⟨f1, f2⟩ := Dk.wrote (y := ⟨x.b.take n, n⟩) d1 hg1 hF hk (w4 := wa.setCell ⟨k, 1, none⟩ (.int .i64 n)) (RTurn.refl d1 s) e3 (by rw [blk_set k2]; simp) hcs2.1 hcs2.2.1 hcs2.2.2.1 hcs2.2.2.2 (fun j hj => Below.heap_setCell wa ⟨k, 1, none⟩ _ j hj)
  refine ⟨k2, ?_, a2.trans (b2.trans (d2.trans f2))⟩
  simp only [put_put] at f1
  exact f1
end Go.Proofs.Ytcblcffkppiclaa.Dk
