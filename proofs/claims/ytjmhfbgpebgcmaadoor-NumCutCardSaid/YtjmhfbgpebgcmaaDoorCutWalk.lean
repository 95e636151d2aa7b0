/- estreatlaw01.NumCut hands back true, for every input. -/
import Derived.Test.YtjmhfbgpebgcmaaDoorRdNil
import Derived.Test.YtjmhfbgpebgcmaaDoorPureNumCut
namespace Go.Proofs.YtjmhfbgpebgcmaaDoor.Cut
open Go.RowKit Go.Proofs.YtjmhfbgpebgcmaaDoor.PNumCut Go.Proofs.YtjmhfbgpebgcmaaDoor.Pure Go.Proofs.YtjmhfbgpebgcmaaDoorW.PrintWords Go.Proofs.YtjmhfbgpebgcmaaDoorW.PrintLast Go.Proofs.YtjmhfbgpebgcmaaDoorW.PrintMore
attribute [local go_sem] max2_int min2_int max_two min_two max_three min_three max_four min_four
set_option linter.unusedVariables false
set_option linter.unusedSimpArgs false
theorem _root_.Go.RowKit.Below.trans_drawn {B : Nat} {w0 w w' : World} (h : Below B w0 w) (hd : Drawn0 w w') : Below B w0 w' := by
  obtain ⟨n, rfl⟩ := hd.out
  exact pw_below_drewN h n
/-- A new Reader of the first byte and what is left of a short number. -/
theorem NewR (A : Option Addr) (c n m j : Nat) (w0 w1 w : World) (hR : ∃ B ok, (Kd.int .u8).R 5 w1 B ok (.slice A ((leb m).length + 1) c) ([7] ++ leb m)) (hd : Drawn0 w1 w) (hj : j < (leb m).length) (hn : n = 1 + j) (hB : Below w0.heap.size w0 w) (h10 : (leb m).length ≤ 10) (hc : (leb m).length + 1 ≤ c) (hG : HG w0) :
    Calls Tryd.prog 13 #[.slice A n c] w fun e w' => ∃ g_ : Nat, e = .returned (.pointer (some ⟨g_, 0, none⟩)) ∧ IsS71 w0 w' g_ (7 :: (leb m).take j) 0 0 0 ∧ Below w0.heap.size w0 w' := by
  obtain ⟨B, ok, hR⟩ := hR
  have hC0 := (Kd.R_reads' hR).2.2
  have hC1 := Kd.C_below hC0 hd.below
  have hC := Kd.C_take (m := 1 + j) (k := Kd.int .u8) (w := w) (A := A) (xs := [7] ++ leb m) hC1 (by simp; omega)
  have e : ([7] ++ leb m : List Int).take (1 + j) = 7 :: (leb m).take j := by rw [Nat.add_comm]; rfl
  rw [e] at hC
  have hl : (7 :: (leb m).take j : List Int).length = n := by simp; omega
  have hf : num_NewReader.f (7 :: (leb m).take j) = some (7 :: (leb m).take j, 0, 0, 0) := by unfold num_NewReader.f; rw [if_pos (by rw [hl]; omega)]
  have h := num_NewReader.calls A c (7 :: (leb m).take j) _ _ _ _ w0 w hB hC (by rw [hl]; omega) hG hf
  rw [hl] at h
  exact h.mono (fun e w' ⟨g, h1, h2, h3, _⟩ => ⟨g, h1, h2, h3⟩)
/-- The first byte is taken. -/
theorem Take1 (g : Nat) (t : List Int) (w0 w : World) (hI : IsS71 w0 w g (7 :: t) 0 0 0) (hB : Below w0.heap.size w0 w) (ht : t.length ≤ 10) :
    Calls Tryd.prog 14 #[.pointer (some ⟨g, 0, none⟩), .int .i64 1] w fun e w' => ∃ A c, e = .returned (.slice A 1 c) ∧ IsS71 w0 w' g (7 :: t) 1 0 0 ∧ Below w0.heap.size w0 w' := by
  have hf : num_Reader_Take.f (7 :: t) 0 0 0 1 = some ([7], 1, 0, 0) := by
    unfold num_Reader_Take.f
    rw [if_pos ⟨by omega, by omega, by simp; omega⟩, if_neg (by simp), if_neg (by omega), if_neg (by simp; omega)]
    rfl
  refine (num_Reader_Take.calls g (7 :: t) 0 0 0 1 _ _ _ _ w0 w hI hB hf).mono ?_
  rintro e w' ⟨v, rfl, hR, hI2, hB2, _⟩
  obtain ⟨A, c, rfl⟩ := Kd.R_slice hR
  exact ⟨A, c, rfl, hI2, hB2⟩
set_option maxHeartbeats 8000000 in
set_option maxRecDepth 100000 in
theorem cut_walk (m : Nat) (cut : Int) (W : World) (hm : m < 18446744073709551616) (hG : HG W) :
    Calls Tryd.prog 3 #[.int .u64 m, .int .i64 cut] W fun e w' => e = .returned (.bool true) ∧ Below W.heap.size W w' := by
  have hpos := leb_pos m
  have h10 := leb_length10 hm
  obtain ⟨k0, hpv⟩ := (putvar_ev m hm [7] (by decide)).rounds
  obtain ⟨r, hpk, hr0, hr1⟩ := pick_f cut (leb m).length (by omega) (by omega)
  obtain ⟨j, rfl⟩ := Int.eq_ofNat_of_zero_le hr0
  obtain ⟨k1, hvar⟩ := (cut_var m j hm (by omega)).rounds
  obtain ⟨k2, haw⟩ := numawake.rounds
  have HPV := Aside0.mk hpv
  have HVAR := Aside0.mk hvar
  have HAW := Aside0.mk haw
  have HPK := Aside0.mk hpk
  clear hpv hvar haw hpk
  go_enter Tryd.func3, Tryd.ntmps3
  go_wp2_with (first | ((with_reducible refine gate_dst (N := 15) rfl ?_); refine Kd.R_lit (Kd.int .u8) W.heap.size 5 ?hg (N := 15) ?hd (xs := ([7] : List Int)) (inner := [.int .u8 7]) (ok := fun _ => True) (okp := fun _ => True) ?hr ?hp (fun _ hk => hk) trivial (Below.refl _ _) (Nat.le_refl _) (by simp) ?_; (case hd => rfl); (case hg => rfl); (case hr => first | (go_simp; done) | (go_simp; rfl)); (case hp => exact (Reps.one rfl (Reps.none _ _))); intro v15 w15 ho15 hb15 hg15 hn15) | (go_at_call 11; refine (num_PutVar.calls k0 _ _ _ _ _ _ _ hb15 ho15 HPV.out).mono ?_; rintro e w2 ⟨v2, rfl, hR2, hB2, _⟩; obtain ⟨A2, c2, rfl⟩ := Kd.R_slice hR2; have hc2 : (leb m).length + 1 ≤ c2 := (by have := (Kd.R_reads' hR2).2.1; simpa using this); have hj2 : (1 : Int) + j ≤ c2 := (by omega); have HR2 : Aside0 (∃ B ok, (Kd.int .u8).R 5 w2 B ok (.slice A2 ((leb m).length + 1) c2) ([7] ++ leb m)) := ⟨_, _, (by simpa using hR2)⟩; clear hR2) | (go_at_call 12; refine (estreatref01_Pick.calls _ _ _ _ HPK.out).mono ?_; rintro e w3 ⟨rfl, hd3⟩) | (go_at_call 13; (with_reducible refine (NewR _ _ _ m j W _ _ HR2.out hd3 (by omega) rfl (hB2.trans_drawn hd3) h10 hc2 hG).mono ?_); rintro e w4 ⟨g, rfl, hI4, hB4⟩) | (go_at_call 14; (with_reducible refine (Take1 _ _ _ _ hI4 hB4 (by simp; omega)).mono ?_); rintro e w5 ⟨A5, c5, rfl, hI5, hB5⟩; clear hI4 hB4) | (go_at_call 15; (with_reducible refine (num_Reader_Var.calls k1 _ _ _ _ _ _ _ _ _ _ _ hI5 hB5 HVAR.out).mono ?_); rintro e w6 ⟨rfl, hI6, hB6, _⟩; clear hI5 hB5) | (go_at_call 16; (with_reducible refine (num_Reader_Err.calls _ _ _ _ _ _ _ _ _ _ _ _ hI6 hB6 rfl).mono ?_); rintro e w7 ⟨rfl, hI7, hB7, _⟩; clear hI6 hB6) | (go_at_call 16; (with_reducible refine (Err_nil _).mono ?_); rintro e w8 ⟨rfl, hB8⟩; have HB8 := Aside0.mk (below_step hB7 hB8); clear hB7 hB8 hI7) | (go_at_call 17; (with_reducible refine (Fail_nil _ _).mono ?_); rintro e w' ⟨rfl, rfl⟩) | (go_at_call 15; (with_reducible refine (Var_nil _).mono ?_); rintro e w' ⟨rfl, rfl⟩) | (go_at_call 18; (with_reducible refine (Fix_nil _).mono ?_); rintro e w' ⟨rfl, rfl⟩) | (go_at_call 14; (with_reducible refine (Take_nil _ _).mono ?_); rintro e w' ⟨rfl, rfl⟩) | (go_at_call 19; (with_reducible refine (Blob_nil _ _).mono ?_); rintro e w' ⟨rfl, rfl⟩) | (go_at_call 20; (with_reducible refine (At_nil _).mono ?_); rintro e w' ⟨rfl, rfl⟩) | (go_at_call 21; (with_reducible refine (Left_nil _).mono ?_); rintro e w' ⟨rfl, rfl⟩) | (go_at_call 22; (with_reducible refine (estreatlaw01_awake.calls k2 _ _ HAW.out).mono ?_); rintro e w9 ⟨rfl, hB9⟩))
  go_ret
  exact ⟨rfl, below_step HB8.out hB9⟩
theorem cut_row (a0 a1 : Int) (w : World) (w0 : (Lit.int .u64 a0).wf = true) (w1 : (Lit.int .i64 a1).wf = true) (hG : HG w) :
    Calls Tryd.prog 3 #[.int .u64 a0, .int .i64 a1] w fun e w' => e = .returned (.bool true) ∧ Below w.heap.size w w' := by
  obtain ⟨h0, h1⟩ := wf_u64 w0
  obtain ⟨m, rfl⟩ := Int.eq_ofNat_of_zero_le h0
  exact cut_walk m a1 w (by omega) hG
end Go.Proofs.YtjmhfbgpebgcmaaDoor.Cut
