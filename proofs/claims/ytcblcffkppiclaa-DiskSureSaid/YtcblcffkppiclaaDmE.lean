/- Cut. What is done with a disk: the acts, in memory and as plain data; the law's 'do'. Whether there is more than is looked at. -/
import Derived.Test.YtcblcffkppiclaaDmD
import Derived.Deep.QuietTactic
import Derived.BigQuiet
namespace Go.Proofs.Ytcblcffkppiclaa.Dk
open Go.RowKit Go.Maps Go.Sort Go.Proofs.Ytcblcffkppiclaa.DkMap Go.Proofs.YtcblcffkppiclaaW.PrintWords Go.Proofs.YtcblcffkppiclaaW.PrintLast Go.Proofs.YtcblcffkppiclaaW.PrintMore Go.Proofs.Ytcblcffkppiclaa.PDiskNil
attribute [local go_sem] max2_int min2_int max_two min_two max_three min_three max_four min_four
set_option linter.unusedVariables false
set_option linter.unusedSimpArgs false
set_option linter.unusedSectionVars false
theorem below_drewN (B : Nat) (w : World) (n : Nat) (hB : B ≤ w.heap.size := by exact Nat.le_refl _) : Below B w (w.drewN n) := ⟨rfl, rfl, rfl, Nat.le_refl _, fun _ _ => rfl⟩
section
variable (w : World) (tag : Tags) (p M k : Nat) (D : DataW Unit) (F : List UInt8 → Option Nat) (st : St) (h : Dk w tag p M D F (used st.fl) st) (hok : st.Ok) (s : List UInt8) (x : Fi) (hx : get st.fl s = some x) (hk : F s = some k)
  (bn bd : Nat) (n : Int) (hd : w.cell? ⟨bd, 0, none⟩ = some (.pointer (some ⟨p, 0, none⟩))) (hn : w.cell? ⟨bn, 0, none⟩ = some (.int .i64 n))
  (hbd : bd < w.heap.size ∧ tag bd = none) (hbn : bn < w.heap.size ∧ tag bn = none)
include h hok hx hk hd hn hbd hbn
set_option maxHeartbeats 4000000 in
theorem Cut_c1 (hbad : n < 0 ∨ (x.b.length : Int) < n) : Calls Try.prog 38 #[.pointer (some ⟨k, 0, none⟩), .pointer (some ⟨bn, 0, none⟩), .pointer (some ⟨bd, 0, none⟩)] w fun e w' => e = .returned (.int .i64 5) ∧ Below w.heap.size w w' := by
  obtain ⟨k', hk', v, e1, e2, e3⟩ := h.file _ _ hx
  rw [hk] at hk'
  injection hk' with hk'
  subst hk'
  obtain ⟨A, c, rfl, _⟩ := FRow.C e3
  have f0 : w.cell? ⟨k, 0, none⟩ = some (.slice A x.b.length c) := (blk_cell e1 0).trans rfl
  clear e1 e2 e3 h hok hx hk
  by_cases h0 : n < 0
  · have hd0 : decide (n < 0) = true := decide_eq_true h0
    go_enter Try.func38, Try.ntmps38
    go_wp2
    go_quiet (fail)
    go_wp2
    go_ret
    exact ⟨rfl, below_drewN _ _ _⟩
  · have h1 : (x.b.length : Int) < n := hbad.resolve_left h0
    have hd0 : decide (n < 0) = false := decide_eq_false h0
    go_enter Try.func38, Try.ntmps38
    go_wp2
    go_quiet (fail)
    go_wp2
    go_ret
    exact ⟨rfl, below_drewN _ _ _⟩
set_option maxHeartbeats 8000000 in
theorem Cut_c2 (m : Nat) (hm : n = (m : Int)) (h1 : m ≤ x.b.length) : Calls Try.prog 38 #[.pointer (some ⟨k, 0, none⟩), .pointer (some ⟨bn, 0, none⟩), .pointer (some ⟨bd, 0, none⟩)] w fun e w' => e = .returned (.int .i64 0) ∧ Dsk Try.prog w' tag p { st with fl := put st.fl s ⟨x.b.take m, min x.sure m⟩ } ∧ Turn w w' tag tag := by
  subst hm
  obtain ⟨k', hk', v, e1, e2, e3⟩ := h.file _ _ hx
  rw [hk] at hk'
  injection hk' with hk'
  subst hk'
  obtain ⟨A, c, rfl, hc, _⟩ := FRow.C e3
  have f0 : w.cell? ⟨k, 0, none⟩ = some (.slice A x.b.length c) := (blk_cell e1 0).trans rfl
  obtain ⟨c0, c1, c2, c3, c4⟩ := Dk.cells h
  have hz := Dk.froz h 1
  have hsure := hok.sure _ _ hx
  have hux := get_used hx
  have hfits := hok.fits
  have hroom := hok.room
  have h0' : ¬ (m : Int) < 0 := by omega
  have h1' : decide ((x.b.length : Int) < m) = false := decide_eq_false (by omega)
  have hw1 : IntKind.i64.wrap ((x.b.length : Int) - m) = (x.b.length : Int) - m := (IntKind.wrap_i64 _).trans (by omega)
  have hw2 : IntKind.i64.wrap ((used st.fl : Int) - ((x.b.length : Int) - m)) = (used st.fl : Int) - ((x.b.length : Int) - m) := (IntKind.wrap_i64 _).trans (by omega)
  have hbk : bn ≠ k := by intro e; have := e2; rw [← e, hbn.2] at this; cases this
  have hkb : k ≠ bn := fun e => hbk e.symm
  have hkp : k ≠ p := by intro e; have := e2; rw [e, h.tp] at this; cases this
  have E := Aside0.mk (And.intro e1 (And.intro e2 e3))
  have H := Aside0.mk h
  have O := Aside0.mk hok
  have X := Aside0.mk hx
  have K := Aside0.mk hk
  clear e1 e2 e3 h hok hx hk
  have hd0 : decide ((m : Int) < 0) = false := decide_eq_false h0'
  go_enter Try.func38, Try.ntmps38
  go_wp2
  go_quiet (fail)
  go_wp2
  have t1 := Turn.below (tag := tag) (below_drewN w.heap.size w nq)
  have h1w := IsDk.below H.out (below_drewN w.heap.size w nq)
  have E1 := E.out.1
  rw [← show (w.drewN nq).heap[k]? = w.heap[k]? from rfl] at E1
  have E3 := E.out.2.2.same (w' := w.drewN nq) (tag' := tag) (fun _ _ => rfl) (fun _ h => h)
  have hd := (t1.cell (a := ⟨bd, 0, none⟩) hbd.1 hbd.2).trans hd
  have hn := (t1.cell (a := ⟨bn, 0, none⟩) hbn.1 hbn.2).trans hn
  have hbd := (⟨Nat.lt_of_lt_of_le hbd.1 t1.size, hbd.2⟩ : bd < (w.drewN nq).heap.size ∧ tag bd = none)
  have hbn := (⟨Nat.lt_of_lt_of_le hbn.1 t1.size, hbn.2⟩ : bn < (w.drewN nq).heap.size ∧ tag bn = none)
  have T1 := Aside0.mk t1
  clear c0 c1 c2 c3 c4 f0 hz t1
  generalize w.drewN nq = w1 at h1w E1 E3 hd hn hbd hbn T1 ⊢
  obtain ⟨c0, c1, c2, c3, c4⟩ := Dk.cells h1w
  have hz := Dk.froz h1w 1
  have f0 : w1.cell? ⟨k, 0, none⟩ = some (.slice A x.b.length c) := (blk_cell E1 0).trans rfl
  have H1 := Aside0.mk h1w
  have EE := Aside0.mk (And.intro E1 E3)
  clear h1w E1 E3 H
  go_wp2
  go_region
  have t2 := (Turn.head H1.out 1 (.int .i64 ((used st.fl : Int) - ((x.b.length : Int) - m)))).trans (Turn.below (tag := tag) (below_drew1 (Below.refl _ _)))
  have h2 := IsDk.below (Dk.setUsed H1.out ((used st.fl : Int) - ((x.b.length : Int) - m))) (below_drew1 (Below.refl _ _))
  have E1 : (w1.setCell ⟨p, 1, none⟩ (.int .i64 ((used st.fl : Int) - ((x.b.length : Int) - m)))).drew.heap[k]? = some (.cells #[.slice A x.b.length c, .int .i64 x.sure] 57 (0, 0)) := blk_far EE.out.1 (p := ⟨p, 1, none⟩) hkp _
  have E3 := EE.out.2.same (w' := (w1.setCell ⟨p, 1, none⟩ (.int .i64 ((used st.fl : Int) - ((x.b.length : Int) - m)))).drew) (tag' := tag) (fun j hj => Below.heap_setCell w1 ⟨p, 1, none⟩ _ j (fun e => by rw [e, H1.out.tp] at hj; cases hj)) (fun _ h => h)
  have hd := (t2.cell (a := ⟨bd, 0, none⟩) hbd.1 hbd.2).trans hd
  have hn := (t2.cell (a := ⟨bn, 0, none⟩) hbn.1 hbn.2).trans hn
  have T2 := Aside0.mk (T1.out.trans t2)
  clear c0 c1 c2 c3 c4 f0 hz t2 hbd hbn
  generalize (w1.setCell ⟨p, 1, none⟩ (.int .i64 ((used st.fl : Int) - ((x.b.length : Int) - m)))).drew = w2 at h2 E1 E3 hd hn T2 ⊢
  have hk2 := E.out.2.1
  have hW := fun (v' : Value) (w4 : World) (hR : FRow w2.drew tag s v' (x.b.take m)) hb ho htp hou hs hsame => Dk.wrote (y := ⟨x.b.take m, min x.sure m⟩) (IsDk.below h2 (below_drew1 (Below.refl _ w2))) X.out K.out hk2 (w4 := w4) (RTurn.refl (IsDk.below h2 (below_drew1 (Below.refl _ w2))) s) hR hb ho htp hou hs hsame
  have g0 : w2.cell? ⟨k, 0, none⟩ = some (.slice A x.b.length c) := (blk_cell E1 0).trans rfl
  have g1 : w2.cell? ⟨k, 1, none⟩ = some (.int .i64 x.sure) := (blk_cell E1 1).trans rfl
  have z0 := blk_frozen E1 0
  have z1 := blk_frozen E1 1
  have hmin : (if m < x.sure then (m : Int) else (x.sure : Int)) = ((min x.sure m : Nat) : Int) := by split <;> omega
  have hFin : ∀ v', FRow w2.drew tag s v' (x.b.take m) → Dsk Try.prog (((w2.setCell ⟨k, 0, none⟩ v').setCell ⟨k, 1, none⟩ (.int .i64 ((min x.sure m : Nat) : Int))).drew) tag p { st with fl := put st.fl s ⟨x.b.take m, min x.sure m⟩ } ∧ Turn w (((w2.setCell ⟨k, 0, none⟩ v').setCell ⟨k, 1, none⟩ (.int .i64 ((min x.sure m : Nat) : Int))).drew) tag tag := by
    intro v' hR
    have q0 := setCells_same k [v'] 0 w2
    have q1 := setCells_same k [.int .i64 ((min x.sure m : Nat) : Int)] 1 (w2.setCell ⟨k, 0, none⟩ v')
    have b0 : (w2.setCell ⟨k, 0, none⟩ v').heap[k]? = some (.cells #[v', .int .i64 x.sure] 57 (0, 0)) := by rw [blk_set E1]; simp
    have b1 : (((w2.setCell ⟨k, 0, none⟩ v').setCell ⟨k, 1, none⟩ (.int .i64 ((min x.sure m : Nat) : Int))).drew).heap[k]? = some (.cells #[v', .int .i64 ((min x.sure m : Nat) : Int)] 57 (0, 0)) := by
      show ((w2.setCell ⟨k, 0, none⟩ v').setCell ⟨k, 1, none⟩ (.int .i64 ((min x.sure m : Nat) : Int))).heap[k]? = _
      rw [blk_set b0]; simp
    obtain ⟨a1, a2⟩ := hW v' _ hR b1 (q1.1.trans q0.1) (q1.2.1.trans q0.2.1) (q1.2.2.1.trans q0.2.2.1) (q1.2.2.2.trans q0.2.2.2) (fun j hj => (Below.heap_setCell (w2.setCell ⟨k, 0, none⟩ v') ⟨k, 1, none⟩ _ j hj).trans (Below.heap_setCell w2 ⟨k, 0, none⟩ _ j hj))
    have hO2 := Ok_same O.out s x ⟨x.b.take m, min x.sure m⟩ X.out (by show min x.sure m ≤ (x.b.take m).length; rw [List.length_take]; omega) (by show (x.b.take m).length ≤ _; rw [List.length_take]; omega)
    have hu2 : ((used (put st.fl s ⟨x.b.take m, min x.sure m⟩) : Nat) : Int) = (used st.fl : Int) - ((x.b.length : Int) - m) := by
      have := used_put st.fl s ⟨x.b.take m, min x.sure m⟩
      rw [X.out] at this
      simp at this
      omega
    refine ⟨⟨hO2, M, D, F, ?_⟩, T2.out.trans ((Turn.below (tag := tag) (below_drew1 (Below.refl _ w2))).trans a2)⟩
    show IsDk Try.prog _ tag p M D F ((used (put st.fl s ⟨x.b.take m, min x.sure m⟩) : Nat) : Int) _
    rw [hu2]
    exact a1
  have HW := Aside0.mk hW
  have E1A := Aside0.mk E1
  have H2 := Aside0.mk h2
  clear hW E1 h2 EE E H1
  have hmc : m ≤ c := by omega
  rcases E3 with ⟨eA, eB⟩ | ⟨R, cap, cur, eA, e4, e5, e6, e7, e8, e9⟩
  · injection eA with eA1 eA2 eA3
    subst eA1
    subst eA3
    have hm0 : m = 0 := by rw [eB] at h1; simpa using h1
    have hl : x.b.length = 0 := by rw [eB]; rfl
    have hR : FRow w2.drew tag s (.slice none 0 0) (x.b.take m) := .inl ⟨rfl, by rw [eB]; simp⟩
    subst hm0
    rw [hl] at g0 ⊢
    clear eA2
    have hs0 : ((min x.sure 0 : Nat) : Int) = (x.sure : Int) := by omega
    have hF := hFin _ hR
    simp only [hs0] at hF
    go_wp2
    go_region
    go_wp2
    go_ret
    exact ⟨rfl, hF⟩
  · injection eA with eA1 eA2 eA3
    subst eA1
    subst eA3
    have hR : FRow w2.drew tag s (.slice (some ⟨R, 0, none⟩) m m) (x.b.take m) := (FRow.cut (.inr ⟨R, c, cur, rfl, e4, e5, e6, e7, e8, e9⟩) h1).same (fun _ _ => rfl) (fun _ h => h)
    clear e4 e5 e6 e7 e8 e9 hc
    go_wp2
    go_region
    try rw [hmin]
    go_wp2
    go_ret
    exact ⟨rfl, hFin _ hR⟩
end
set_option maxHeartbeats 4000000 in
theorem Cut_ok (w : World) (tag : Tags) (p : Nat) (st : St) (h : Dsk Try.prog w tag p st) (s : ByteArray) (hs : s.size ≤ maxLen) (n : Int) :
    Calls Try.prog 21 #[.pointer (some ⟨p, 0, none⟩), .string s, .int .i64 n] w fun e w' => e = .returned (.int .i64 (cut st s.data.toList n).1) ∧ Dsk Try.prog w' tag p (cut st s.data.toList n).2 ∧ Turn w w' tag tag := by
  unfold cut
  have hb := below_alloc (below_alloc (Below.refl w.heap.size w) (.cells #[.pointer (some ⟨p, 0, none⟩)] 24)) (.cells #[.int .i64 n] 3)
  have h2 := Dsk.below h hb
  have T2 := Aside0.mk (Turn.below (tag := tag) hb)
  have e1 := heap_alloc_new (w.alloc (.cells #[.pointer (some ⟨p, 0, none⟩)] 24)) (.cells #[.int .i64 n] 3)
  have e0 := heap_alloc_new w (.cells #[.pointer (some ⟨p, 0, none⟩)] 24)
  have hs1 : (w.alloc (.cells #[.pointer (some ⟨p, 0, none⟩)] 24)).heap.size = w.heap.size + 1 := by simp
  have hs2 : ((w.alloc (.cells #[.pointer (some ⟨p, 0, none⟩)] 24)).alloc (.cells #[.int .i64 n] 3)).heap.size = w.heap.size + 2 := by simp
  rw [← blk_alloc_lt' (.cells #[.int .i64 n] 3) (by omega)] at e0
  rw [hs1] at e1
  have n0 := Dsk.fresh h w.heap.size (Nat.le_refl _)
  have n1 := Dsk.fresh h (w.heap.size + 1) (by omega)
  by_cases hx : st.down = true ∨ fails st = true ∨ isName s.data.toList = false ∨ get st.fl s.data.toList = none
  · have HG := Aside0.mk (deed_stop _ tag p st h2 s hs (.func (.func 38) #[] #[.pointer (some ⟨w.heap.size + 1, 0, none⟩), .pointer (some ⟨w.heap.size, 0, none⟩)]) (fun (s' : St) (f : Fi) => if n < 0 ∨ (f.b.length : Int) < n then ((5 : Int), s') else ((0 : Int), { s' with fl := put s'.fl s.data.toList ⟨f.b.take n.toNat, min f.sure n.toNat⟩ })) hx)
    clear h hx h2 hb n0 n1 e0 e1
    generalize deed st s.data.toList (fun (s' : St) (f : Fi) => if n < 0 ∨ (f.b.length : Int) < n then ((5 : Int), s') else ((0 : Int), { s' with fl := put s'.fl s.data.toList ⟨f.b.take n.toNat, min f.sure n.toNat⟩ })) = r at HG ⊢
    go_enter Try.func21, Try.ntmps21
    go_wp2_with (go_at_call 26; (with_reducible refine HG.out.mono ?_); rintro e w1 ⟨rfl, h1, t1⟩; have H1 := Aside0.mk h1; have T1 := Aside0.mk t1; clear h1 t1)
    go_ret
    exact ⟨rfl, H1.out, T2.out.trans T1.out⟩
  · simp only [not_or, Bool.not_eq_true, Bool.not_eq_false] at hx
    obtain ⟨hd, hf, hn, hg⟩ := hx
    obtain ⟨x, hx⟩ := Option.ne_none_iff_exists'.1 hg
    rw [deed_eq hd hf hn hx]
    have HG := Aside0.mk (deed_go38 _ tag p st h2 s hs hd hf hn x hx (.pointer (some ⟨w.heap.size + 1, 0, none⟩)) (.pointer (some ⟨w.heap.size, 0, none⟩)) (fun e w' => e = .returned (.int .i64 (if n < 0 ∨ (x.b.length : Int) < n then ((5 : Int), burn st) else ((0 : Int), { burn st with fl := put (burn st).fl s.data.toList ⟨x.b.take n.toNat, min x.sure n.toNat⟩ })).1) ∧ Dsk Try.prog w' tag p (if n < 0 ∨ (x.b.length : Int) < n then ((5 : Int), burn st) else ((0 : Int), { burn st with fl := put (burn st).fl s.data.toList ⟨x.b.take n.toNat, min x.sure n.toNat⟩ })).2 ∧ Turn _ w' tag tag) (fun w2 M D F k h3 hok2 t2 hk => by
      have q0 := (t2.cell (a := ⟨w.heap.size, 0, none⟩) (by rw [hs2]; show w.heap.size < _; omega) n0).trans ((blk_cell e0 0).trans rfl)
      have q1 := (t2.cell (a := ⟨w.heap.size + 1, 0, none⟩) (by rw [hs2]; show w.heap.size + 1 < _; omega) n1).trans ((blk_cell e1 0).trans rfl)
      have l := t2.size
      rw [hs2] at l
      have b0 := (⟨Nat.lt_of_lt_of_le (by omega) l, n0⟩ : w.heap.size < w2.heap.size ∧ tag w.heap.size = none)
      have b1 := (⟨Nat.lt_of_lt_of_le (by omega) l, n1⟩ : w.heap.size + 1 < w2.heap.size ∧ tag (w.heap.size + 1) = none)
      have hxb : get (burn st).fl s.data.toList = some x := by rw [burn_fl]; exact hx
      by_cases hT : n < 0 ∨ (x.b.length : Int) < n
      · rw [if_pos hT]
        refine (Cut_c1 w2 tag p M k D F (burn st) h3 hok2 s.data.toList x hxb hk _ _ n q0 q1 b0 b1 hT).mono ?_
        rintro e w3 ⟨rfl, hb3⟩
        exact ⟨⟨_, rfl⟩, rfl, ⟨hok2, M, D, F, IsDk.below h3 hb3⟩, t2.trans (Turn.below hb3)⟩
      · rw [if_neg hT]
        refine (Cut_c2 w2 tag p M k D F (burn st) h3 hok2 s.data.toList x hxb hk _ _ n q0 q1 b0 b1 n.toNat (by omega) (by omega)).mono ?_
        rintro e w3 ⟨rfl, h4, t4⟩
        exact ⟨⟨_, rfl⟩, rfl, h4, t2.trans t4⟩))
    clear h hx hg h2 hb n0 n1 e0 e1
    generalize (if n < 0 ∨ (x.b.length : Int) < n then ((5 : Int), burn st) else ((0 : Int), { burn st with fl := put (burn st).fl s.data.toList ⟨x.b.take n.toNat, min x.sure n.toNat⟩ })) = r at HG ⊢
    go_enter Try.func21, Try.ntmps21
    go_wp2_with (go_at_call 26; (with_reducible refine HG.out.mono ?_); rintro e w1 ⟨rfl, h1, t1⟩; have H1 := Aside0.mk h1; have T1 := Aside0.mk t1; clear h1 t1)
    go_ret
    exact ⟨rfl, H1.out, T2.out.trans T1.out⟩
end Go.Proofs.Ytcblcffkppiclaa.Dk
namespace Go.Proofs.Ytcblcffkppiclaa.Dk
open Go.RowKit Go.Maps Go.Sort Go.Proofs.Ytcblcffkppiclaa.DkMap Go.Proofs.YtcblcffkppiclaaW.PrintWords Go.Proofs.YtcblcffkppiclaaW.PrintLast Go.Proofs.YtcblcffkppiclaaW.PrintMore Go.Proofs.Ytcblcffkppiclaa.PDiskNil
attribute [local go_sem] max2_int min2_int max_two min_two max_three min_three max_four min_four
set_option linter.unusedVariables false
set_option linter.unusedSimpArgs false
set_option linter.unusedSectionVars false
structure DAct where
  kind : Int
  nm : List UInt8
  ton : List UInt8
  b : List Int
  n : Int
  ks : List Int
def act (s : St) (a : DAct) : Int × St :=
  if a.kind = 0 ∨ a.kind = 1 then append s a.nm a.b
  else if a.kind = 2 then sync s a.nm
  else if a.kind = 3 then rename s a.nm a.ton
  else if a.kind = 4 then delete s a.nm
  else if a.kind = 5 then cut s a.nm a.n
  else if a.kind = 6 then (0, { s with fuse := max a.n (-1) })
  else if a.kind = 7 then (0, boot s a.ks)
  else (0, s)
/-- An act's cells. -/
structure ActV (w : World) (tag : Tags) (cs : Nat → Option Value) (a : DAct) : Prop where
  ex : ∃ (s t : ByteArray) (A : Option Addr) (c : Nat) (K : Option Addr) (kc : Nat), cs 0 = some (.int .i64 a.kind) ∧ cs 1 = some (.string s) ∧ cs 2 = some (.string t) ∧ cs 3 = some (.slice A a.b.length c) ∧ cs 4 = some (.int .i64 a.n) ∧ cs 5 = some (.slice K a.ks.length kc) ∧
    s.data.toList = a.nm ∧ t.data.toList = a.ton ∧ s.size ≤ maxLen ∧ t.size ≤ maxLen ∧ Arg w tag A c a.b ∧ Kp w tag K kc a.ks ∧ a.b.length ≤ maxLen ∧ a.ks.length ≤ maxLen ∧ a.n ≤ 9223372036854775807
/-- A row of acts in memory, outside the disk. -/
def Acts (w : World) (tag : Tags) (A : Option Addr) (l : List DAct) : Prop :=
  ∀ i (h : i < l.length), ∃ ad, A = some ad ∧ ad.block < w.heap.size ∧ tag ad.block = none ∧ ActV w tag (fun j => w.cell? (ad.add (i * 6 + j))) l[i]
theorem add_block (a : Addr) (j : Nat) : (a.add j).block = a.block := by unfold Addr.add; split <;> rfl
theorem Acts.turn {w w' : World} {tag tag' : Tags} {A : Option Addr} {l : List DAct} (h : Acts w tag A l) (hT : Turn w w' tag tag') : Acts w' tag' A l := by
  intro i hi
  obtain ⟨ad, e, h1, h2, ⟨s, t, B, c, K, kc, c0, c1, c2, c3, c4, c5, es, et, hs, ht, hA, hK, hb, hk, hn⟩⟩ := h i hi
  have hc : ∀ j v, w.cell? (ad.add (i * 6 + j)) = some v → w'.cell? (ad.add (i * 6 + j)) = some v := fun j v hv => (hT.cell (by rw [add_block]; exact h1) (by rw [add_block]; exact h2)).trans hv
  exact ⟨ad, e, Nat.lt_of_lt_of_le h1 hT.size, hT.tags _ h1 h2, ⟨s, t, B, c, K, kc, hc _ _ c0, hc _ _ c1, hc _ _ c2, hc _ _ c3, hc _ _ c4, hc _ _ c5, es, et, hs, ht, hA.turn hT, hK.turn hT, hb, hk, hn⟩⟩
set_option maxHeartbeats 8000000 in
theorem do_ok (w : World) (tag : Tags) (p : Nat) (st : St) (h : Dsk Try.prog w tag p st) (a : DAct) (s t : ByteArray) (A : Option Addr) (c : Nat) (K : Option Addr) (kc : Nat) (hnm : s.data.toList = a.nm) (hto : t.data.toList = a.ton) (hs : s.size ≤ maxLen) (ht : t.size ≤ maxLen) (hA : Arg w tag A c a.b) (hK : Kp w tag K kc a.ks) (hb : a.b.length ≤ maxLen) (hk : a.ks.length ≤ maxLen) (hn : a.n ≤ 9223372036854775807) (hb1 : a.b.length ≤ 1099511627776) :
    Calls Try.prog 18 #[.pointer (some ⟨p, 0, none⟩), .agg #[.int .i64 a.kind, .string s, .string t, .slice A a.b.length c, .int .i64 a.n, .slice K a.ks.length kc]] w fun e w' => ∃ tag', e = .returned (.int .i64 (act st a).1) ∧ Dsk Try.prog w' tag' p (act st a).2 ∧ Turn w w' tag tag' := by
  have hal := below_alloc (Below.refl w.heap.size w) (.cells #[.int .i64 a.kind, .string s, .string t, .slice A a.b.length c, .int .i64 a.n, .slice K a.ks.length kc] 42)
  have hbk := heap_alloc_new w (.cells #[.int .i64 a.kind, .string s, .string t, .slice A a.b.length c, .int .i64 a.n, .slice K a.ks.length kc] 42)
  have h2 := Dsk.below h hal
  have hA2 := hA.turn (Turn.below (tag := tag) hal)
  have hK2 := hK.turn (Turn.below (tag := tag) hal)
  have d0 := (blk_cell hbk 0).trans rfl
  have d1 := (blk_cell hbk 1).trans rfl
  have d2 := (blk_cell hbk 2).trans rfl
  have d3 := (blk_cell hbk 3).trans rfl
  have d4 := (blk_cell hbk 4).trans rfl
  have d5 := (blk_cell hbk 5).trans rfl
  have H := Aside0.mk h2
  have HA := Aside0.mk hA2
  have HK := Aside0.mk hK2
  have T := Aside0.mk (Turn.below (tag := tag) hal)
  have hkl : a.ks.length ≤ 9223372036854775807 := by unfold maxLen at hk; omega
  obtain ⟨kind, nm, ton, b, n, ks⟩ := a
  simp only at *
  subst hnm
  subst hto
  unfold act
  simp only
  clear h hal hbk h2 hA2 hK2 hA hK
  by_cases k01 : kind = 0 ∨ kind = 1
  · rw [if_pos k01]
    rcases k01 with rfl | rfl
    · skip
      have HG := Aside0.mk (Append_ok _ _ _ _ H.out s hs A b c HA.out hb1)
      generalize append st s.data.toList b = r at HG ⊢
      go_enter Try.func18, Try.ntmps18
      go_wp2_with (go_at_call 9; (with_reducible refine HG.out.mono ?_); rintro e w1 ⟨tag', rfl, h1, t1⟩; have H1 := Aside0.mk h1; have T1 := Aside0.mk t1; clear h1 t1)
      go_ret
      exact ⟨tag', rfl, H1.out, T.out.trans T1.out⟩
    · skip
      have HG := Aside0.mk (Append_ok _ _ _ _ H.out s hs A b c HA.out hb1)
      generalize append st s.data.toList b = r at HG ⊢
      go_enter Try.func18, Try.ntmps18
      go_wp2_with (go_at_call 9; (with_reducible refine HG.out.mono ?_); rintro e w1 ⟨tag', rfl, h1, t1⟩; have H1 := Aside0.mk h1; have T1 := Aside0.mk t1; clear h1 t1)
      go_ret
      exact ⟨tag', rfl, H1.out, T.out.trans T1.out⟩
  rw [if_neg k01]
  have k0 : ¬ kind = 0 := fun e => k01 (.inl e)
  have k1 : ¬ kind = 1 := fun e => k01 (.inr e)
  clear k01
  by_cases k2 : kind = 2
  · rw [if_pos k2]
    subst k2
    have HG := Aside0.mk (Sync_ok _ _ _ _ H.out s hs)
    generalize sync st s.data.toList = r at HG ⊢
    go_enter Try.func18, Try.ntmps18
    go_wp2_with (go_at_call 10; (with_reducible refine HG.out.mono ?_); rintro e w1 ⟨rfl, h1, t1⟩; have H1 := Aside0.mk h1; have T1 := Aside0.mk t1; clear h1 t1)
    go_ret
    exact ⟨tag, rfl, H1.out, T.out.trans T1.out⟩
  rw [if_neg k2]
  by_cases k3 : kind = 3
  · rw [if_pos k3]
    subst k3
    have HG := Aside0.mk (Rename_ok _ _ _ _ H.out s t hs ht)
    generalize rename st s.data.toList t.data.toList = r at HG ⊢
    go_enter Try.func18, Try.ntmps18
    go_wp2_with (go_at_call 19; (with_reducible refine HG.out.mono ?_); rintro e w1 ⟨tag', rfl, h1, t1⟩; have H1 := Aside0.mk h1; have T1 := Aside0.mk t1; clear h1 t1)
    go_ret
    exact ⟨tag', rfl, H1.out, T.out.trans T1.out⟩
  rw [if_neg k3]
  by_cases k4 : kind = 4
  · rw [if_pos k4]
    subst k4
    have HG := Aside0.mk (Delete_ok _ _ _ _ H.out s hs)
    generalize delete st s.data.toList = r at HG ⊢
    go_enter Try.func18, Try.ntmps18
    go_wp2_with (go_at_call 20; (with_reducible refine HG.out.mono ?_); rintro e w1 ⟨rfl, h1, t1⟩; have H1 := Aside0.mk h1; have T1 := Aside0.mk t1; clear h1 t1)
    go_ret
    exact ⟨tag, rfl, H1.out, T.out.trans T1.out⟩
  rw [if_neg k4]
  by_cases k5 : kind = 5
  · rw [if_pos k5]
    subst k5
    have HG := Aside0.mk (Cut_ok _ _ _ _ H.out s hs n)
    generalize cut st s.data.toList n = r at HG ⊢
    go_enter Try.func18, Try.ntmps18
    go_wp2_with (go_at_call 21; (with_reducible refine HG.out.mono ?_); rintro e w1 ⟨rfl, h1, t1⟩; have H1 := Aside0.mk h1; have T1 := Aside0.mk t1; clear h1 t1)
    go_ret
    exact ⟨tag, rfl, H1.out, T.out.trans T1.out⟩
  rw [if_neg k5]
  by_cases k6 : kind = 6
  · rw [if_pos k6]
    subst k6
    have HG := Aside0.mk (Fuse_dsk _ _ _ _ H.out n hn)
    go_enter Try.func18, Try.ntmps18
    go_wp2_with (go_at_call 11; (with_reducible refine HG.out.mono ?_); rintro e w1 ⟨rfl, h1, t1⟩; have H1 := Aside0.mk h1; have T1 := Aside0.mk t1; clear h1 t1)
    go_ret
    exact ⟨tag, rfl, H1.out, T.out.trans T1.out⟩
  rw [if_neg k6]
  by_cases k7 : kind = 7
  · rw [if_pos k7]
    subst k7
    have HG := Aside0.mk (Boot_ok _ _ _ _ H.out K kc ks hkl HK.out)
    generalize boot st ks = r at HG ⊢
    go_enter Try.func18, Try.ntmps18
    go_wp2_with (go_at_call 12; (with_reducible refine HG.out.mono ?_); rintro e w1 ⟨rfl, h1, t1⟩; have H1 := Aside0.mk h1; have T1 := Aside0.mk t1; clear h1 t1)
    go_ret
    exact ⟨tag, rfl, H1.out, T.out.trans T1.out⟩
  rw [if_neg k7]
  go_enter Try.func18, Try.ntmps18
  go_wp2
  go_ret
  exact ⟨tag, rfl, H.out, T.out⟩
end Go.Proofs.Ytcblcffkppiclaa.Dk
namespace Go.Proofs.Ytcblcffkppiclaa.Dk
open Go.RowKit Go.Maps Go.Sort Go.Proofs.Ytcblcffkppiclaa.DkMap Go.Proofs.YtcblcffkppiclaaW.PrintWords Go.Proofs.YtcblcffkppiclaaW.PrintLast Go.Proofs.YtcblcffkppiclaaW.PrintMore Go.Proofs.Ytcblcffkppiclaa.PDiskNil
attribute [local go_sem] max2_int min2_int max_two min_two max_three min_three max_four min_four
set_option linter.unusedVariables false
set_option linter.unusedSimpArgs false
set_option linter.unusedSectionVars false
structure Small (a : DAct) : Prop where
  b : a.b.length ≤ 100
  ks : a.ks.length ≤ 100
  nm : a.nm.length ≤ 100
  ton : a.ton.length ≤ 100
theorem add_field (ad : Addr) (k n : Nat) : (⟨(ad.add k).block, (ad.add k).off + (n + 1), none⟩ : Addr) = ad.add (k + (n + 1)) := by
  unfold Addr.add
  by_cases h : k = 0 <;> simp [h, Nat.add_assoc]
def GreatPost (l : List DAct) (e : Ending) : Prop := ∃ g, e = .returned (.bool g) ∧ (g = false → l.length ≤ 60 ∧ ∀ i (h : i < l.length), Small l[i])
set_option maxHeartbeats 4000000 in
theorem great_ok (w : World) (tag : Tags) (A : Option Addr) (l : List DAct) (c : Nat) (hA : Acts w tag A l) (hl : l.length ≤ maxLen) :
    Calls Try.prog 16 #[.slice A l.length c] w fun e w' => GreatPost l e ∧ w' = w := by
  unfold maxLen at hl
  have HA := Aside0.mk hA
  clear hA
  go_enter Try.func16, Try.ntmps16
  go_wp2
  go_loopw [3] (fun k wr => ∃ j : Nat, j ≤ l.length ∧ j ≤ 60 ∧ k = .int .i64 j ∧ Aside0 (∀ i (h : i < l.length), i < j → Small l[i]) ∧ wr = w) (fun k _ => 60 - (intOf k).toNat)
  case atStart => exact ⟨0, Nat.zero_le _, Nat.zero_le _, rfl, ⟨fun i _ h => absurd h (by omega)⟩, rfl⟩
  case round =>
    obtain ⟨j, hj, hj6, rfl, hS, rfl⟩ := hrel
    by_cases hlt : j < l.length
    · by_cases h60 : j < 60
      · obtain ⟨ad, rfl, hb, ht, ⟨s, t, B, cb, K, kc, c0, c1, c2, c3, c4, c5, es, et, hs, ht', hA, hK, hbl, hkl, hn⟩⟩ := HA.out j hlt
        have q3 : wr.cell? ⟨(ad.add (j * 6)).block, (ad.add (j * 6)).off + 3, none⟩ = some (.slice B l[j].b.length cb) := by rw [add_field ad (j * 6) 2]; exact c3
        have q5 : wr.cell? ⟨(ad.add (j * 6)).block, (ad.add (j * 6)).off + 5, none⟩ = some (.slice K l[j].ks.length kc) := by rw [add_field ad (j * 6) 4]; exact c5
        have q1 : wr.cell? ⟨(ad.add (j * 6)).block, (ad.add (j * 6)).off + 1, none⟩ = some (.string s) := by rw [add_field ad (j * 6) 0]; exact c1
        have q2 : wr.cell? ⟨(ad.add (j * 6)).block, (ad.add (j * 6)).off + 2, none⟩ = some (.string t) := by rw [add_field ad (j * 6) 1]; exact c2
        have l1 : l[j].nm.length = s.size := by rw [← es]; exact Array.length_toList
        have l2 : l[j].ton.length = t.size := by rw [← et]; exact Array.length_toList
        clear c0 c1 c2 c3 c4 c5 hA hK es et
        have hjx : Small l[j] ∨ ¬ Small l[j] := Classical.em _
        have hst : l[j].b.length ≤ 100 → l[j].ks.length ≤ 100 → s.size ≤ 100 → t.size ≤ 100 → ∀ i (h : i < l.length), i < j + 1 → Small l[i] := by
          intro a1 a2 a3 a4 i hi hij
          by_cases e : i = j
          · subst e; exact ⟨a1, a2, by rw [l1]; exact a3, by rw [l2]; exact a4⟩
          · exact hS.out i hi (by omega)
        have HS2 := Aside0.mk hst
        clear hst hjx l1 l2 hS
        generalize l[j].b.length = n1 at q3 hbl HS2
        generalize l[j].ks.length = n2 at q5 hkl HS2
        unfold maxLen at hs ht' hbl hkl
        by_cases p1 : n1 ≤ 100
        · by_cases p2 : n2 ≤ 100
          · by_cases p3 : s.size ≤ 100
            · by_cases p4 : t.size ≤ 100
              · have hin := Aside0.mk (HS2.out p1 p2 p3 p4)
                clear HS2
                go_wp2
                exact ⟨⟨j + 1, by omega, by omega, rfl, hin, trivial⟩, by simp [intOf]; omega⟩
              · clear HS2
                go_wp2
                go_ret
                exact ⟨⟨true, rfl, fun h => by cases h⟩, rfl⟩
            · clear HS2
              go_wp2
              go_ret
              exact ⟨⟨true, rfl, fun h => by cases h⟩, rfl⟩
          · clear HS2
            go_wp2
            go_ret
            exact ⟨⟨true, rfl, fun h => by cases h⟩, rfl⟩
        · clear HS2
          go_wp2
          go_ret
          exact ⟨⟨true, rfl, fun h => by cases h⟩, rfl⟩
      · have h6 : j = 60 := by omega
        subst h6
        by_cases h61 : 60 < l.length
        · go_wp2
          go_ret
          exact ⟨⟨_, rfl, fun h => by cases h⟩, rfl⟩
        · omega
    · have hje : j = l.length := by omega
      subst hje
      go_wp2
      go_ret
      refine ⟨⟨_, rfl, fun h => ⟨?_, fun i hi => hS.out i hi hi⟩⟩, rfl⟩
      have h2 : decide ((60 : Int) < (l.length : Int)) = false := h
      have h3 := of_decide_eq_false h2
      omega
end Go.Proofs.Ytcblcffkppiclaa.Dk
