/- Cut. -/
import Derived.Test.YtcblcffkppiclaaDkRen
import Derived.Deep.QuietTactic
import Derived.BigQuiet
namespace Go.Proofs.Ytcblcffkppiclaa.Dk
open Go.RowKit Go.Maps Go.Sort Go.Proofs.Ytcblcffkppiclaa.DkMap Go.Proofs.YtcblcffkppiclaaW.PrintWords Go.Proofs.YtcblcffkppiclaaW.PrintLast Go.Proofs.YtcblcffkppiclaaW.PrintMore Go.Proofs.Ytcblcffkppiclaa.PDiskNil
attribute [local go_sem] max2_int min2_int max_two min_two max_three min_three max_four min_four
set_option linter.unusedVariables false
set_option linter.unusedSimpArgs false
set_option linter.unusedSectionVars false
theorem below_drewN (B : Nat) (w : World) (n : Nat) (hB : B ≤ w.heap.size := by exact Nat.le_refl _) : Below B w (w.drewN n) := ⟨rfl, rfl, rfl, Nat.le_refl _, fun _ _ => rfl⟩
section
variable (w : World) (tag : Tags) (p M k : Nat) (D : DataW Unit) (F : List UInt8 → Option Nat) (st : St) (h : Dk w tag p M D F (used st.fl) st) (hok : st.Ok) (s : List UInt8) (x : Fi) (hx : get st.fl s = some x) (hk : F s = some k)
  (bn bd : Nat) (n : Int) (hd : w.cell? ⟨bd, 0, none⟩ = some (.pointer (some ⟨p, 0, none⟩))) (hn : w.cell? ⟨bn, 0, none⟩ = some (.int .i64 n))
  (hbd : bd < w.heap.size ∧ tag bd = none) (hbn : bn < w.heap.size ∧ tag bn = none)
include h hok hx hk hd hn hbd hbn
set_option maxHeartbeats 4000000 in
theorem Cut_c1 (hbad : n < 0 ∨ (x.b.length : Int) < n) : Calls Try.prog 38 #[.pointer (some ⟨k, 0, none⟩), .pointer (some ⟨bn, 0, none⟩), .pointer (some ⟨bd, 0, none⟩)] w fun e w' => e = .returned (.int .i64 5) ∧ Below w.heap.size w w' := by
  obtain ⟨k', hk', v, e1, e2, e3⟩ := h.file _ _ hx
  rw [hk] at hk'
  injection hk' with hk'
  subst hk'
  obtain ⟨A, c, rfl, _⟩ := FRow.C e3
  have f0 : w.cell? ⟨k, 0, none⟩ = some (.slice A x.b.length c) := (blk_cell e1 0).trans rfl
  clear e1 e2 e3 h hok hx hk
  by_cases h0 : n < 0
  · have hd0 : decide (n < 0) = true := decide_eq_true h0
    go_enter Try.func38, Try.ntmps38
    go_wp2
    go_quiet (fail)
    go_wp2
    go_ret
    exact ⟨rfl, below_drewN _ _ _⟩
  · have h1 : (x.b.length : Int) < n := hbad.resolve_left h0
    have hd0 : decide (n < 0) = false := decide_eq_false h0
    go_enter Try.func38, Try.ntmps38
    go_wp2
    go_quiet (fail)
    go_wp2
    go_ret
    exact ⟨rfl, below_drewN _ _ _⟩
set_option maxHeartbeats 8000000 in
theorem Cut_c2 (m : Nat) (hm : n = (m : Int)) (h1 : m ≤ x.b.length) : Calls Try.prog 38 #[.pointer (some ⟨k, 0, none⟩), .pointer (some ⟨bn, 0, none⟩), .pointer (some ⟨bd, 0, none⟩)] w fun e w' => e = .returned (.int .i64 0) ∧ Dsk Try.prog w' tag p { st with fl := put st.fl s ⟨x.b.take m, min x.sure m⟩ } ∧ Turn w w' tag tag := by
  subst hm
  obtain ⟨k', hk', v, e1, e2, e3⟩ := h.file _ _ hx
  rw [hk] at hk'
  injection hk' with hk'
  subst hk'
  obtain ⟨A, c, rfl, hc, _⟩ := FRow.C e3
  have f0 : w.cell? ⟨k, 0, none⟩ = some (.slice A x.b.length c) := (blk_cell e1 0).trans rfl
  obtain ⟨c0, c1, c2, c3, c4⟩ := Dk.cells h
  have hz := Dk.froz h 1
  have hsure := hok.sure _ _ hx
  have hux := get_used hx
  have hfits := hok.fits
  have hroom := hok.room
  have h0' : ¬ (m : Int) < 0 := by omega
  have h1' : decide ((x.b.length : Int) < m) = false := decide_eq_false (by omega)
  have hw1 : IntKind.i64.wrap ((x.b.length : Int) - m) = (x.b.length : Int) - m := (IntKind.wrap_i64 _).trans (by omega)
  have hw2 : IntKind.i64.wrap ((used st.fl : Int) - ((x.b.length : Int) - m)) = (used st.fl : Int) - ((x.b.length : Int) - m) := (IntKind.wrap_i64 _).trans (by omega)
  have hbk : bn ≠ k := by intro e; have := e2; rw [← e, hbn.2] at this; cases this
  have hkb : k ≠ bn := fun e => hbk e.symm
  have hkp : k ≠ p := by intro e; have := e2; rw [e, h.tp] at this; cases this
  have E := Aside0.mk (And.intro e1 (And.intro e2 e3))
  have H := Aside0.mk h
  have O := Aside0.mk hok
  have X := Aside0.mk hx
  have K := Aside0.mk hk
  clear e1 e2 e3 h hok hx hk
  have hd0 : decide ((m : Int) < 0) = false := decide_eq_false h0'
  go_enter Try.func38, Try.ntmps38
  go_wp2
  go_quiet (fail)
  go_wp2
  have t1 := Turn.below (tag := tag) (below_drewN w.heap.size w nq)
  have h1w := IsDk.below H.out (below_drewN w.heap.size w nq)
  have E1 := E.out.1
  rw [← show (w.drewN nq).heap[k]? = w.heap[k]? from rfl] at E1
  have E3 := E.out.2.2.same (w' := w.drewN nq) (tag' := tag) (fun _ _ => rfl) (fun _ h => h)
  have hd := (t1.cell (a := ⟨bd, 0, none⟩) hbd.1 hbd.2).trans hd
  have hn := (t1.cell (a := ⟨bn, 0, none⟩) hbn.1 hbn.2).trans hn
  have hbd := (⟨Nat.lt_of_lt_of_le hbd.1 t1.size, hbd.2⟩ : bd < (w.drewN nq).heap.size ∧ tag bd = none)
  have hbn := (⟨Nat.lt_of_lt_of_le hbn.1 t1.size, hbn.2⟩ : bn < (w.drewN nq).heap.size ∧ tag bn = none)
  have T1 := Aside0.mk t1
  clear c0 c1 c2 c3 c4 f0 hz t1
  generalize w.drewN nq = w1 at h1w E1 E3 hd hn hbd hbn T1 ⊢
  obtain ⟨c0, c1, c2, c3, c4⟩ := Dk.cells h1w
  have hz := Dk.froz h1w 1
  have f0 : w1.cell? ⟨k, 0, none⟩ = some (.slice A x.b.length c) := (blk_cell E1 0).trans rfl
  have H1 := Aside0.mk h1w
  have EE := Aside0.mk (And.intro E1 E3)
  clear h1w E1 E3 H
  go_wp2
  go_region
  have t2 := (Turn.head H1.out 1 (.int .i64 ((used st.fl : Int) - ((x.b.length : Int) - m)))).trans (Turn.below (tag := tag) (below_drew1 (Below.refl _ _)))
  have h2 := IsDk.below (Dk.setUsed H1.out ((used st.fl : Int) - ((x.b.length : Int) - m))) (below_drew1 (Below.refl _ _))
  have E1 : (w1.setCell ⟨p, 1, none⟩ (.int .i64 ((used st.fl : Int) - ((x.b.length : Int) - m)))).drew.heap[k]? = some (.cells #[.slice A x.b.length c, .int .i64 x.sure] 57 (0, 0)) := blk_far EE.out.1 (p := ⟨p, 1, none⟩) hkp _
  have E3 := EE.out.2.same (w' := (w1.setCell ⟨p, 1, none⟩ (.int .i64 ((used st.fl : Int) - ((x.b.length : Int) - m)))).drew) (tag' := tag) (fun j hj => Below.heap_setCell w1 ⟨p, 1, none⟩ _ j (fun e => by rw [e, H1.out.tp] at hj; cases hj)) (fun _ h => h)
  have hd := (t2.cell (a := ⟨bd, 0, none⟩) hbd.1 hbd.2).trans hd
  have hn := (t2.cell (a := ⟨bn, 0, none⟩) hbn.1 hbn.2).trans hn
  have T2 := Aside0.mk (T1.out.trans t2)
  clear c0 c1 c2 c3 c4 f0 hz t2 hbd hbn
  generalize (w1.setCell ⟨p, 1, none⟩ (.int .i64 ((used st.fl : Int) - ((x.b.length : Int) - m)))).drew = w2 at h2 E1 E3 hd hn T2 ⊢
  have hk2 := E.out.2.1
  have hW := fun (v' : Value) (w4 : World) (hR : FRow w2.drew tag s v' (x.b.take m)) hb ho htp hou hs hsame => Dk.wrote (y := ⟨x.b.take m, min x.sure m⟩) (IsDk.below h2 (below_drew1 (Below.refl _ w2))) X.out K.out hk2 (w4 := w4) (RTurn.refl (IsDk.below h2 (below_drew1 (Below.refl _ w2))) s) hR hb ho htp hou hs hsame
  have g0 : w2.cell? ⟨k, 0, none⟩ = some (.slice A x.b.length c) := (blk_cell E1 0).trans rfl
  have g1 : w2.cell? ⟨k, 1, none⟩ = some (.int .i64 x.sure) := (blk_cell E1 1).trans rfl
  have z0 := blk_frozen E1 0
  have z1 := blk_frozen E1 1
  have hmin : (if m < x.sure then (m : Int) else (x.sure : Int)) = ((min x.sure m : Nat) : Int) := by split <;> omega
  have hFin : ∀ v', FRow w2.drew tag s v' (x.b.take m) → Dsk Try.prog (((w2.setCell ⟨k, 0, none⟩ v').setCell ⟨k, 1, none⟩ (.int .i64 ((min x.sure m : Nat) : Int))).drew) tag p { st with fl := put st.fl s ⟨x.b.take m, min x.sure m⟩ } ∧ Turn w (((w2.setCell ⟨k, 0, none⟩ v').setCell ⟨k, 1, none⟩ (.int .i64 ((min x.sure m : Nat) : Int))).drew) tag tag := by
    intro v' hR
    have q0 := setCells_same k [v'] 0 w2
    have q1 := setCells_same k [.int .i64 ((min x.sure m : Nat) : Int)] 1 (w2.setCell ⟨k, 0, none⟩ v')
    have b0 : (w2.setCell ⟨k, 0, none⟩ v').heap[k]? = some (.cells #[v', .int .i64 x.sure] 57 (0, 0)) := by rw [blk_set E1]; simp
    have b1 : (((w2.setCell ⟨k, 0, none⟩ v').setCell ⟨k, 1, none⟩ (.int .i64 ((min x.sure m : Nat) : Int))).drew).heap[k]? = some (.cells #[v', .int .i64 ((min x.sure m : Nat) : Int)] 57 (0, 0)) := by
      show ((w2.setCell ⟨k, 0, none⟩ v').setCell ⟨k, 1, none⟩ (.int .i64 ((min x.sure m : Nat) : Int))).heap[k]? = _
      rw [blk_set b0]; simp
    obtain ⟨a1, a2⟩ := hW v' _ hR b1 (q1.1.trans q0.1) (q1.2.1.trans q0.2.1) (q1.2.2.1.trans q0.2.2.1) (q1.2.2.2.trans q0.2.2.2) (fun j hj => (Below.heap_setCell (w2.setCell ⟨k, 0, none⟩ v') ⟨k, 1, none⟩ _ j hj).trans (Below.heap_setCell w2 ⟨k, 0, none⟩ _ j hj))
    have hO2 := Ok_same O.out s x ⟨x.b.take m, min x.sure m⟩ X.out (by show min x.sure m ≤ (x.b.take m).length; rw [List.length_take]; omega) (by show (x.b.take m).length ≤ _; rw [List.length_take]; omega)
    have hu2 : ((used (put st.fl s ⟨x.b.take m, min x.sure m⟩) : Nat) : Int) = (used st.fl : Int) - ((x.b.length : Int) - m) := by
      have := used_put st.fl s ⟨x.b.take m, min x.sure m⟩
      rw [X.out] at this
      simp at this
      omega
    refine ⟨⟨hO2, M, D, F, ?_⟩, T2.out.trans ((Turn.below (tag := tag) (below_drew1 (Below.refl _ w2))).trans a2)⟩
    show IsDk Try.prog _ tag p M D F ((used (put st.fl s ⟨x.b.take m, min x.sure m⟩) : Nat) : Int) _
    rw [hu2]
    exact a1
  have HW := Aside0.mk hW
  have E1A := Aside0.mk E1
  have H2 := Aside0.mk h2
  clear hW E1 h2 EE E H1
  have hmc : m ≤ c := by omega
  rcases E3 with ⟨eA, eB⟩ | ⟨R, cap, cur, eA, e4, e5, e6, e7, e8, e9⟩
  · injection eA with eA1 eA2 eA3
    subst eA1
    subst eA3
    have hm0 : m = 0 := by rw [eB] at h1; simpa using h1
    have hl : x.b.length = 0 := by rw [eB]; rfl
    have hR : FRow w2.drew tag s (.slice none 0 0) (x.b.take m) := .inl ⟨rfl, by rw [eB]; simp⟩
    subst hm0
    rw [hl] at g0 ⊢
    clear eA2
    have hs0 : ((min x.sure 0 : Nat) : Int) = (x.sure : Int) := by omega
    have hF := hFin _ hR
    simp only [hs0] at hF
    go_wp2
    go_region
    go_wp2
    go_ret
    exact ⟨rfl, hF⟩
  · injection eA with eA1 eA2 eA3
    subst eA1
    subst eA3
    have hR : FRow w2.drew tag s (.slice (some ⟨R, 0, none⟩) m m) (x.b.take m) := (FRow.cut (.inr ⟨R, c, cur, rfl, e4, e5, e6, e7, e8, e9⟩) h1).same (fun _ _ => rfl) (fun _ h => h)
    clear e4 e5 e6 e7 e8 e9 hc
    go_wp2
    go_region
    try rw [hmin]
    go_wp2
    go_ret
    exact ⟨rfl, hFin _ hR⟩
end
set_option maxHeartbeats 4000000 in
theorem Cut_ok (w : World) (tag : Tags) (p : Nat) (st : St) (h : Dsk Try.prog w tag p st) (s : ByteArray) (hs : s.size ≤ maxLen) (n : Int) :
    Calls Try.prog 21 #[.pointer (some ⟨p, 0, none⟩), .string s, .int .i64 n] w fun e w' => e = .returned (.int .i64 (cut st s.data.toList n).1) ∧ Dsk Try.prog w' tag p (cut st s.data.toList n).2 ∧ Turn w w' tag tag := by
  unfold cut
  have hb := below_alloc (below_alloc (Below.refl w.heap.size w) (.cells #[.pointer (some ⟨p, 0, none⟩)] 24)) (.cells #[.int .i64 n] 3)
  have h2 := Dsk.below h hb
  have T2 := Aside0.mk (Turn.below (tag := tag) hb)
  have e1 := heap_alloc_new (w.alloc (.cells #[.pointer (some ⟨p, 0, none⟩)] 24)) (.cells #[.int .i64 n] 3)
  have e0 := heap_alloc_new w (.cells #[.pointer (some ⟨p, 0, none⟩)] 24)
  have hs1 : (w.alloc (.cells #[.pointer (some ⟨p, 0, none⟩)] 24)).heap.size = w.heap.size + 1 := by simp
  have hs2 : ((w.alloc (.cells #[.pointer (some ⟨p, 0, none⟩)] 24)).alloc (.cells #[.int .i64 n] 3)).heap.size = w.heap.size + 2 := by simp
  rw [← blk_alloc_lt' (.cells #[.int .i64 n] 3) (by omega)] at e0
  rw [hs1] at e1
  have n0 := Dsk.fresh h w.heap.size (Nat.le_refl _)
  have n1 := Dsk.fresh h (w.heap.size + 1) (by omega)
  by_cases hx : st.down = true ∨ fails st = true ∨ isName s.data.toList = false ∨ get st.fl s.data.toList = none
  · have HG := Aside0.mk (deed_stop _ tag p st h2 s hs (.func (.func 38) #[] #[.pointer (some ⟨w.heap.size + 1, 0, none⟩), .pointer (some ⟨w.heap.size, 0, none⟩)]) (fun (s' : St) (f : Fi) => if n < 0 ∨ (f.b.length : Int) < n then ((5 : Int), s') else ((0 : Int), { s' with fl := put s'.fl s.data.toList ⟨f.b.take n.toNat, min f.sure n.toNat⟩ })) hx)
    clear h hx h2 hb n0 n1 e0 e1
    generalize deed st s.data.toList (fun (s' : St) (f : Fi) => if n < 0 ∨ (f.b.length : Int) < n then ((5 : Int), s') else ((0 : Int), { s' with fl := put s'.fl s.data.toList ⟨f.b.take n.toNat, min f.sure n.toNat⟩ })) = r at HG ⊢
    go_enter Try.func21, Try.ntmps21
    go_wp2_with (go_at_call 26; (with_reducible refine HG.out.mono ?_); rintro e w1 ⟨rfl, h1, t1⟩; have H1 := Aside0.mk h1; have T1 := Aside0.mk t1; clear h1 t1)
    go_ret
    exact ⟨rfl, H1.out, T2.out.trans T1.out⟩
  · simp only [not_or, Bool.not_eq_true, Bool.not_eq_false] at hx
    obtain ⟨hd, hf, hn, hg⟩ := hx
    obtain ⟨x, hx⟩ := Option.ne_none_iff_exists'.1 hg
    rw [deed_eq hd hf hn hx]
    have HG := Aside0.mk (deed_go38 _ tag p st h2 s hs hd hf hn x hx (.pointer (some ⟨w.heap.size + 1, 0, none⟩)) (.pointer (some ⟨w.heap.size, 0, none⟩)) (fun e w' => e = .returned (.int .i64 (if n < 0 ∨ (x.b.length : Int) < n then ((5 : Int), burn st) else ((0 : Int), { burn st with fl := put (burn st).fl s.data.toList ⟨x.b.take n.toNat, min x.sure n.toNat⟩ })).1) ∧ Dsk Try.prog w' tag p (if n < 0 ∨ (x.b.length : Int) < n then ((5 : Int), burn st) else ((0 : Int), { burn st with fl := put (burn st).fl s.data.toList ⟨x.b.take n.toNat, min x.sure n.toNat⟩ })).2 ∧ Turn _ w' tag tag) (fun w2 M D F k h3 hok2 t2 hk => by
      have q0 := (t2.cell (a := ⟨w.heap.size, 0, none⟩) (by rw [hs2]; show w.heap.size < _; omega) n0).trans ((blk_cell e0 0).trans rfl)
      have q1 := (t2.cell (a := ⟨w.heap.size + 1, 0, none⟩) (by rw [hs2]; show w.heap.size + 1 < _; omega) n1).trans ((blk_cell e1 0).trans rfl)
      have l := t2.size
      rw [hs2] at l
      have b0 := (⟨Nat.lt_of_lt_of_le (by omega) l, n0⟩ : w.heap.size < w2.heap.size ∧ tag w.heap.size = none)
      have b1 := (⟨Nat.lt_of_lt_of_le (by omega) l, n1⟩ : w.heap.size + 1 < w2.heap.size ∧ tag (w.heap.size + 1) = none)
      have hxb : get (burn st).fl s.data.toList = some x := by rw [burn_fl]; exact hx
      by_cases hT : n < 0 ∨ (x.b.length : Int) < n
      · rw [if_pos hT]
        refine (Cut_c1 w2 tag p M k D F (burn st) h3 hok2 s.data.toList x hxb hk _ _ n q0 q1 b0 b1 hT).mono ?_
        rintro e w3 ⟨rfl, hb3⟩
        exact ⟨⟨_, rfl⟩, rfl, ⟨hok2, M, D, F, IsDk.below h3 hb3⟩, t2.trans (Turn.below hb3)⟩
      · rw [if_neg hT]
        refine (Cut_c2 w2 tag p M k D F (burn st) h3 hok2 s.data.toList x hxb hk _ _ n q0 q1 b0 b1 n.toNat (by omega) (by omega)).mono ?_
        rintro e w3 ⟨rfl, h4, t4⟩
        exact ⟨⟨_, rfl⟩, rfl, h4, t2.trans t4⟩))
    clear h hx hg h2 hb n0 n1 e0 e1
    generalize (if n < 0 ∨ (x.b.length : Int) < n then ((5 : Int), burn st) else ((0 : Int), { burn st with fl := put (burn st).fl s.data.toList ⟨x.b.take n.toNat, min x.sure n.toNat⟩ })) = r at HG ⊢
    go_enter Try.func21, Try.ntmps21
    go_wp2_with (go_at_call 26; (with_reducible refine HG.out.mono ?_); rintro e w1 ⟨rfl, h1, t1⟩; have H1 := Aside0.mk h1; have T1 := Aside0.mk t1; clear h1 t1)
    go_ret
    exact ⟨rfl, H1.out, T2.out.trans T1.out⟩
end Go.Proofs.Ytcblcffkppiclaa.Dk
