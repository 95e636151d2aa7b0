/- estreatlaw01.NumReads hands back true, for every input. -/
import Derived.Test.YtjmhfbgpebgcmaaDoorNrKit
namespace Go.Proofs.YtjmhfbgpebgcmaaDoor.Reads
open Go.RowKit Go.Proofs.YtjmhfbgpebgcmaaDoor.PNumReads Go.Proofs.YtjmhfbgpebgcmaaDoor.Pure Go.Proofs.YtjmhfbgpebgcmaaDoorW.PrintWords Go.Proofs.YtjmhfbgpebgcmaaDoorW.PrintLast Go.Proofs.YtjmhfbgpebgcmaaDoorW.PrintMore
attribute [local go_sem] max2_int min2_int max_two min_two max_three min_three max_four min_four
set_option linter.unusedVariables false
set_option linter.unusedSimpArgs false
set_option maxHeartbeats 8000000 in
set_option maxRecDepth 100000 in
theorem reads_out (A : Option Addr) (b : List Int) (c : Nat) (a : Option Addr) (n c2 : Nat) (W : World) (hl : 500 < b.length ∨ 60 < n) :
    Calls Tryd.prog 5 #[.slice A b.length c, .slice a n c2] W fun e w' => e = .returned (.bool true) ∧ Below W.heap.size W w' := by
  obtain ⟨k1, haw⟩ := numawake.rounds
  have HAW := Aside0.mk haw
  clear haw
  by_cases h1 : (500 : Int) < (b.length : Int)
  · go_enter Tryd.func5, Tryd.ntmps5
    go_wp2_with (go_at_call 22; refine (estreatlaw01_awake.calls k1 _ _ HAW.out).mono ?_; rintro e w' ⟨rfl, hB⟩)
    go_ret
    exact ⟨rfl, hB⟩
  · have h2 : (60 : Int) < (n : Int) := by omega
    go_enter Tryd.func5, Tryd.ntmps5
    go_wp2_with (go_at_call 22; refine (estreatlaw01_awake.calls k1 _ _ HAW.out).mono ?_; rintro e w' ⟨rfl, hB⟩)
    go_ret
    exact ⟨rfl, hB⟩
set_option maxHeartbeats 32000000 in
set_option maxRecDepth 100000 in
theorem reads_walk (A : Option Addr) (b : List Int) (c : Nat) (a : Option Addr) (n c2 : Nat) (W : World) (hl : b.length ≤ 500) (hn : n ≤ 60) (hG : HG W) (hr : (Kd.int .u8).C W A b.length b) (hc : b.length ≤ c) (hw : ∀ v ∈ b, 0 ≤ v ∧ v < 256) (hask : Asks W a n) :
    Calls Tryd.prog 5 #[.slice A b.length c, .slice a n c2] W fun e w' => e = .returned (.bool true) ∧ Below W.heap.size W w' := by
  obtain ⟨k1, haw⟩ := numawake.rounds
  have HAW := Aside0.mk haw
  clear haw
  have h1 : ¬ (500 : Int) < (b.length : Int) := by omega
  have h2 : ¬ (60 : Int) < (n : Int) := by omega
  have hNR : num_NewReader.f b = some (b, 0, 0, 0) := by unfold num_NewReader.f; rw [if_pos (by omega)]
  have HASK := Aside0.mk hask
  clear hask
  go_enter Tryd.func5, Tryd.ntmps5
  go_wp2_with (first | ((with_reducible refine gate_dst (N := 27) rfl ?_); refine Kd.R_lit (Kd.int .u8) W.heap.size 5 ?hg (N := 27) ?hd (xs := ([] : List Int)) (inner := []) (ok := fun _ => True) (okp := fun _ => True) ?hr ?hp (fun _ hk => hk) trivial (Below.refl _ _) (Nat.le_refl _) (by simp) ?_; (case hd => rfl); (case hg => rfl); (case hr => first | (go_simp; done) | (go_simp; rfl)); (case hp => exact (Reps.none _ _)); intro v27 w27 ho27 hb27 hg27 hn27) | ((with_reducible refine gate_builtin (b := .append) (xs := #[.tmp 27, .tmp 28]) rfl ?_); at_builtin; refine Kd.R_append_rows (Kd.int .u8) (w0 := W) W.heap.size rfl (.tmp 27) (.tmp 28) 23 5 (.int .u8 0) 1 rfl Tryd.underlying23 info5 rfl (by decide) (by omega) v27 ([] : List Int) b _ _ _ (fun _ => True) (fun _ => False) rfl rfl ?aO ?aR (fun _ _ h => h) (fun _ h => h.elim) ?aF ?aB ?aS ?aL ?_; (case aO => exact ho27); (case aR => exact Kd.C_below hr hb27); (case aF => exact fun _ _ => trivial); (case aB => exact hb27); (case aS => exact below_size hb27); (case aL => simp only [List.length_nil]; omega); intro v29 w29 ho29 hb29 hg29 hn29; rw [List.nil_append] at ho29; obtain ⟨A1, c1, rfl, hc1, hC1, hrow⟩ := R_open ho29 hw; clear ho29 hg29 hn29 ho27 hb27 hg27 hn27) | (go_at_call 13; (with_reducible refine (num_NewReader.calls A1 c1 b _ _ _ _ w29 w29 (Below.refl _ _) hC1 hc1 (HG.below hb29 hG) hNR).mono ?_); rintro e w31 ⟨g, rfl, hI, _, hB31⟩))
  obtain ⟨G, hGG⟩ : ∃ G, 0 < b.length → A1 = some ⟨G, 0, none⟩ ∧ W.heap.size ≤ G ∧ G < w29.heap.size ∧ Row w31 G b.length := by
    by_cases hpos : 0 < b.length
    · obtain ⟨G, e1, e2, e3, e4⟩ := hrow hpos
      exact ⟨G, fun _ => ⟨e1, e2, e3, e4.below hB31⟩⟩
    · exact ⟨0, fun h => absurd h hpos⟩
  have HBB := Aside0.mk (below_step hb29 hB31)
  have hsz29 : W.heap.size ≤ w29.heap.size := below_size hb29
  clear hrow hC1 hb29 hB31 hNR
  go_loopw [7] (fun k wr => ∃ j : Nat, j ≤ b.length ∧ k = .int .i64 j ∧ Aside0 (0 < b.length → Row wr G b.length) ∧ Aside0 (IsS71 w29 wr g b 0 0 0) ∧ Aside0 (Below W.heap.size W wr)) (fun k _ => b.length - (intOf k).toNat)
  case atStart => exact ⟨0, Nat.zero_le _, rfl, ⟨fun h => (hGG h).2.2.2⟩, ⟨hI⟩, HBB⟩
  case round =>
    clear hI HBB
    obtain ⟨j, hj, rfl, hR, hI, hB⟩ := hrel
    by_cases hlt : j < b.length
    · obtain ⟨hA1, hG1, hG2, _⟩ := hGG (by omega)
      have hR1 := hR.out (by omega)
      obtain ⟨v, hv0, hv1, hcell, hfr⟩ := hR1.cell hlt
      clear hGG
      subst hA1
      go_wp2
      exact ⟨⟨j + 1, by omega, rfl, ⟨fun _ => hR1.set j (by omega) (by omega)⟩, ⟨S71.old hI.out (fun k hk => Below.heap_setCell wr ⟨G, j, none⟩ _ k (by show k ≠ G; omega))⟩, ⟨hB.out.setCell (p := ⟨G, j, none⟩) hG1 _⟩⟩, by simp [intOf]; omega⟩
    · have hS1 : IsS71 W wr g b 0 0 0 := S71.lower hI.out hsz29 hG
      clear hGG hR hI
      go_wp2
      clear hlt
      have hS2 := IsS47.new W wr A c b 0 0 0 hB.out hr hc
      have hBo : Both W (wr.alloc (.cells #[.slice A b.length c, .int .i64 0, .int .i64 0, .int .i64 0] 47)) g wr.heap.size b 0 0 0 := ⟨hS1.alloc _, hS2, below_alloc hB.out _⟩
      have hRd : Rd b 0 0 0 := ⟨⟨0, rfl, Nat.zero_le _⟩, fun _ => rfl⟩
      clear hS1 hS2 hB
      generalize wr.heap.size = x at hBo ⊢
      go_loopw [9] (fun k wr => ∃ (j : Nat) (a' e on : Int), j ≤ n ∧ k = .int .i64 j ∧ Aside0 (Rd b a' e on) ∧ Both W wr g x b a' e on) (fun k _ => n - (intOf k).toNat)
      case atStart => exact ⟨0, 0, 0, 0, Nat.zero_le _, rfl, ⟨hRd⟩, hBo⟩
      case round =>
        clear hBo hRd
        obtain ⟨i, a', e, on, hi, rfl, hRd, hBo⟩ := hrel
        by_cases hlt : i < n
        · obtain ⟨ad, hA, kd, m, hck, hcn⟩ := HASK.out.at hBo.bel hlt
          subst hA
          rw [add_field] at hcn
          by_cases h0 : kd = 0
          · subst h0
            obtain ⟨v, a1, e1, on1, hR1, hv1, hv2⟩ := var_ev hw (by omega) hRd.out
            obtain ⟨kv1, hv1⟩ := hv1.rounds
            obtain ⟨kv2, hv2⟩ := hv2.rounds
            have HV1 := Aside0.mk hv1
            have HV2 := Aside0.mk hv2
            clear hv1 hv2
            obtain ⟨y, z, hE1, hE2⟩ := end_ev (by omega) hR1
            have HE1 := Aside0.mk hE1
            have HE2 := Aside0.mk hE2
            have HR1 := Aside0.mk hR1
            clear hE1 hE2 hR1 hRd
            go_wp2_with (first | (go_at_call 15; (with_reducible refine (Var1 hBo kv1 HV1.out).mono ?_); rintro e w3 ⟨rfl, hH⟩; clear hBo) | (go_at_call 28; (with_reducible refine (Var2 hH kv2 HV2.out).mono ?_); rintro e w4 ⟨rfl, hB5⟩; clear hH) | (go_at_call 16; (with_reducible refine (Err1 hB5).mono ?_); rintro e w6 ⟨rfl, hB6⟩; clear hB5) | (go_at_call 33; (with_reducible refine (End1 hB6 HE1.out).mono ?_); rintro e w7 ⟨rfl, hB7⟩; clear hB6) | (go_at_call 34; (with_reducible refine (End2 hB7 HE2.out).mono ?_); rintro e w8 ⟨rfl, hB8⟩; clear hB7; obtain ⟨hx1, hx2, hx3, hx0⟩ := S47.cells hB8.s2))
            have hQA := fun (w : World) (h : IsS71 W w g b a1 e1 on1) => At_any W w g b a1 e1 on1 h
            have hQL := fun (w : World) (h : IsS71 W w g b a1 e1 on1) => Left_any W w g b a1 e1 on1 h
            go_quiet ((first | (go_at_call 20; exact Calls.quiet_of_same ((hQA _ (hB8.s1.drewN _)).mono (fun e w' h => ⟨h.1, h.2.symm⟩))) | (go_at_call 21; exact Calls.quiet_of ((hQL _ (hB8.s1.drewN _)).mono (fun e w' h => ⟨h.1, h.2.out⟩)))))
            go_wp2
            exact ⟨⟨i + 1, a1, e1, on1, by omega, rfl, HR1, hB8.drawn (Drawn0.mk ⟨_, rfl⟩)⟩, by simp [intOf]; omega⟩
          by_cases h1 : kd = 1
          · subst h1
            obtain ⟨v, a1, e1, on1, hR1, hv1, hv2⟩ := fix_ev hw (by omega) hRd.out m
            obtain ⟨kv1, hv1⟩ := hv1.rounds
            obtain ⟨kv2, hv2⟩ := hv2.rounds
            have HV1 := Aside0.mk hv1
            have HV2 := Aside0.mk hv2
            clear hv1 hv2
            obtain ⟨y, z, hE1, hE2⟩ := end_ev (by omega) hR1
            have HE1 := Aside0.mk hE1
            have HE2 := Aside0.mk hE2
            have HR1 := Aside0.mk hR1
            clear hE1 hE2 hR1 hRd
            go_wp2_with (first | (go_at_call 18; (with_reducible refine (Fix1 hBo kv1 m HV1.out).mono ?_); rintro e w3 ⟨rfl, hH⟩; clear hBo) | (go_at_call 29; (with_reducible refine (Fix2 hH kv2 m HV2.out).mono ?_); rintro e w4 ⟨rfl, hB5⟩; clear hH) | (go_at_call 16; (with_reducible refine (Err1 hB5).mono ?_); rintro e w6 ⟨rfl, hB6⟩; clear hB5) | (go_at_call 33; (with_reducible refine (End1 hB6 HE1.out).mono ?_); rintro e w7 ⟨rfl, hB7⟩; clear hB6) | (go_at_call 34; (with_reducible refine (End2 hB7 HE2.out).mono ?_); rintro e w8 ⟨rfl, hB8⟩; clear hB7; obtain ⟨hx1, hx2, hx3, hx0⟩ := S47.cells hB8.s2))
            have hQA := fun (w : World) (h : IsS71 W w g b a1 e1 on1) => At_any W w g b a1 e1 on1 h
            have hQL := fun (w : World) (h : IsS71 W w g b a1 e1 on1) => Left_any W w g b a1 e1 on1 h
            go_quiet ((first | (go_at_call 20; exact Calls.quiet_of_same ((hQA _ (hB8.s1.drewN _)).mono (fun e w' h => ⟨h.1, h.2.symm⟩))) | (go_at_call 21; exact Calls.quiet_of ((hQL _ (hB8.s1.drewN _)).mono (fun e w' h => ⟨h.1, h.2.out⟩)))))
            go_wp2
            exact ⟨⟨i + 1, a1, e1, on1, by omega, rfl, HR1, hB8.drawn (Drawn0.mk ⟨_, rfl⟩)⟩, by simp [intOf]; omega⟩
          by_cases h2 : kd = 2
          · subst h2
            obtain ⟨l, a1, e1, on1, hv1, hR1, hlen, _⟩ := take_ev (by omega) hRd.out m
            have hL : l.length ≤ 65536 := by rcases hlen with rfl | ⟨_, h⟩; simp; (have := take_le (by omega) hRd.out m hv1; omega)
            have hv2 := (take_same b a' e on m).symm.trans hv1
            have HV1 := Aside0.mk hv1
            have HV2 := Aside0.mk hv2
            clear hv1 hv2 hlen
            obtain ⟨y, z, hE1, hE2⟩ := end_ev (by omega) hR1
            have HE1 := Aside0.mk hE1
            have HE2 := Aside0.mk hE2
            have HR1 := Aside0.mk hR1
            clear hE1 hE2 hR1 hRd
            go_wp2_with (first | (go_at_call 14; (with_reducible refine (Take1 hBo m HV1.out).mono ?_); rintro e w3 ⟨A3, c3, rfl, hc3, hR3, hH⟩; clear hBo) | (go_at_call 30; (with_reducible refine (Take2 hH m HV2.out hR3).mono ?_); rintro e w4 ⟨A4, c4, rfl, hc4, hC4, hC2, hB4⟩; clear hH) | (go_at_call 25; (with_reducible refine (same_true _ _ _ _ _ l hC2 hc3 hC4 hc4 hL).mono ?_); rintro e w5 ⟨rfl, hd5⟩; have hB5 := hB4.drawn hd5; clear hB4) | (go_at_call 16; (with_reducible refine (Err1 hB5).mono ?_); rintro e w6 ⟨rfl, hB6⟩; clear hB5) | (go_at_call 33; (with_reducible refine (End1 hB6 HE1.out).mono ?_); rintro e w7 ⟨rfl, hB7⟩; clear hB6) | (go_at_call 34; (with_reducible refine (End2 hB7 HE2.out).mono ?_); rintro e w8 ⟨rfl, hB8⟩; clear hB7; obtain ⟨hx1, hx2, hx3, hx0⟩ := S47.cells hB8.s2))
            have hQA := fun (w : World) (h : IsS71 W w g b a1 e1 on1) => At_any W w g b a1 e1 on1 h
            have hQL := fun (w : World) (h : IsS71 W w g b a1 e1 on1) => Left_any W w g b a1 e1 on1 h
            go_quiet ((first | (go_at_call 20; exact Calls.quiet_of_same ((hQA _ (hB8.s1.drewN _)).mono (fun e w' h => ⟨h.1, h.2.symm⟩))) | (go_at_call 21; exact Calls.quiet_of ((hQL _ (hB8.s1.drewN _)).mono (fun e w' h => ⟨h.1, h.2.out⟩)))))
            go_wp2
            exact ⟨⟨i + 1, a1, e1, on1, by omega, rfl, HR1, hB8.drawn (Drawn0.mk ⟨_, rfl⟩)⟩, by simp [intOf]; omega⟩
          by_cases h3 : kd = 3
          · subst h3
            obtain ⟨l, a1, e1, on1, hR1, hL, hv1, hv2⟩ := blob_ev hw (by omega) hRd.out m
            have hL : l.length ≤ 65536 := by omega
            obtain ⟨kv1, hv1⟩ := hv1.rounds
            obtain ⟨kv2, hv2⟩ := hv2.rounds
            have HV1 := Aside0.mk hv1
            have HV2 := Aside0.mk hv2
            clear hv1 hv2
            obtain ⟨y, z, hE1, hE2⟩ := end_ev (by omega) hR1
            have HE1 := Aside0.mk hE1
            have HE2 := Aside0.mk hE2
            have HR1 := Aside0.mk hR1
            clear hE1 hE2 hR1 hRd
            go_wp2_with (first | (go_at_call 19; (with_reducible refine (Blob1 hBo kv1 m HV1.out).mono ?_); rintro e w3 ⟨A3, c3, rfl, hc3, hR3, hH⟩; clear hBo) | (go_at_call 31; (with_reducible refine (Blob2 hH kv2 m HV2.out hR3).mono ?_); rintro e w4 ⟨A4, c4, rfl, hc4, hC4, hC2, hB4⟩; clear hH) | (go_at_call 25; (with_reducible refine (same_true _ _ _ _ _ l hC2 hc3 hC4 hc4 hL).mono ?_); rintro e w5 ⟨rfl, hd5⟩; have hB5 := hB4.drawn hd5; clear hB4) | (go_at_call 16; (with_reducible refine (Err1 hB5).mono ?_); rintro e w6 ⟨rfl, hB6⟩; clear hB5) | (go_at_call 33; (with_reducible refine (End1 hB6 HE1.out).mono ?_); rintro e w7 ⟨rfl, hB7⟩; clear hB6) | (go_at_call 34; (with_reducible refine (End2 hB7 HE2.out).mono ?_); rintro e w8 ⟨rfl, hB8⟩; clear hB7; obtain ⟨hx1, hx2, hx3, hx0⟩ := S47.cells hB8.s2))
            have hQA := fun (w : World) (h : IsS71 W w g b a1 e1 on1) => At_any W w g b a1 e1 on1 h
            have hQL := fun (w : World) (h : IsS71 W w g b a1 e1 on1) => Left_any W w g b a1 e1 on1 h
            go_quiet ((first | (go_at_call 20; exact Calls.quiet_of_same ((hQA _ (hB8.s1.drewN _)).mono (fun e w' h => ⟨h.1, h.2.symm⟩))) | (go_at_call 21; exact Calls.quiet_of ((hQL _ (hB8.s1.drewN _)).mono (fun e w' h => ⟨h.1, h.2.out⟩)))))
            go_wp2
            exact ⟨⟨i + 1, a1, e1, on1, by omega, rfl, HR1, hB8.drawn (Drawn0.mk ⟨_, rfl⟩)⟩, by simp [intOf]; omega⟩
          by_cases h4 : kd = 4
          · subst h4
            obtain ⟨a1, e1, on1, hR1, hv1, hv2⟩ := fail_ev hRd.out m
            have HV1 := Aside0.mk hv1
            have HV2 := Aside0.mk hv2
            clear hv1 hv2
            obtain ⟨y, z, hE1, hE2⟩ := end_ev (by omega) hR1
            have HE1 := Aside0.mk hE1
            have HE2 := Aside0.mk hE2
            have HR1 := Aside0.mk hR1
            clear hE1 hE2 hR1 hRd
            go_wp2_with (first | (go_at_call 17; (with_reducible refine (Fail1 hBo m HV1.out).mono ?_); rintro e w3 ⟨rfl, hH⟩; clear hBo) | (go_at_call 32; (with_reducible refine (Fail2 hH m HV2.out).mono ?_); rintro e w4 ⟨rfl, hB5⟩; clear hH) | (go_at_call 16; (with_reducible refine (Err1 hB5).mono ?_); rintro e w6 ⟨rfl, hB6⟩; clear hB5) | (go_at_call 33; (with_reducible refine (End1 hB6 HE1.out).mono ?_); rintro e w7 ⟨rfl, hB7⟩; clear hB6) | (go_at_call 34; (with_reducible refine (End2 hB7 HE2.out).mono ?_); rintro e w8 ⟨rfl, hB8⟩; clear hB7; obtain ⟨hx1, hx2, hx3, hx0⟩ := S47.cells hB8.s2))
            have hQA := fun (w : World) (h : IsS71 W w g b a1 e1 on1) => At_any W w g b a1 e1 on1 h
            have hQL := fun (w : World) (h : IsS71 W w g b a1 e1 on1) => Left_any W w g b a1 e1 on1 h
            go_quiet ((first | (go_at_call 20; exact Calls.quiet_of_same ((hQA _ (hB8.s1.drewN _)).mono (fun e w' h => ⟨h.1, h.2.symm⟩))) | (go_at_call 21; exact Calls.quiet_of ((hQL _ (hB8.s1.drewN _)).mono (fun e w' h => ⟨h.1, h.2.out⟩)))))
            go_wp2
            exact ⟨⟨i + 1, a1, e1, on1, by omega, rfl, HR1, hB8.drawn (Drawn0.mk ⟨_, rfl⟩)⟩, by simp [intOf]; omega⟩
          · skip
            obtain ⟨a1, e1, on1, hR1, rfl, rfl, rfl⟩ : ∃ a1 e1 on1, Rd b a1 e1 on1 ∧ a1 = a' ∧ e1 = e ∧ on1 = on := ⟨a', e, on, hRd.out, rfl, rfl, rfl⟩
            obtain ⟨y, z, hE1, hE2⟩ := end_ev (by omega) hR1
            have HE1 := Aside0.mk hE1
            have HE2 := Aside0.mk hE2
            have HR1 := Aside0.mk hR1
            clear hE1 hE2 hR1 hRd
            go_wp2_with (first | (go_at_call 16; (with_reducible refine (Err1 hBo).mono ?_); rintro e w6 ⟨rfl, hB6⟩; clear hBo) | (go_at_call 33; (with_reducible refine (End1 hB6 HE1.out).mono ?_); rintro e w7 ⟨rfl, hB7⟩; clear hB6) | (go_at_call 34; (with_reducible refine (End2 hB7 HE2.out).mono ?_); rintro e w8 ⟨rfl, hB8⟩; clear hB7; obtain ⟨hx1, hx2, hx3, hx0⟩ := S47.cells hB8.s2))
            have hQA := fun (w : World) (h : IsS71 W w g b a1 e1 on1) => At_any W w g b a1 e1 on1 h
            have hQL := fun (w : World) (h : IsS71 W w g b a1 e1 on1) => Left_any W w g b a1 e1 on1 h
            go_quiet ((first | (go_at_call 20; exact Calls.quiet_of_same ((hQA _ (hB8.s1.drewN _)).mono (fun e w' h => ⟨h.1, h.2.symm⟩))) | (go_at_call 21; exact Calls.quiet_of ((hQL _ (hB8.s1.drewN _)).mono (fun e w' h => ⟨h.1, h.2.out⟩)))))
            go_wp2
            exact ⟨⟨i + 1, a1, e1, on1, by omega, rfl, HR1, hB8.drawn (Drawn0.mk ⟨_, rfl⟩)⟩, by simp [intOf]; omega⟩
        · go_wp2_with (go_at_call 22; refine (estreatlaw01_awake.calls k1 _ _ HAW.out).mono ?_; rintro e w' ⟨rfl, hB⟩)
          go_ret
          exact ⟨rfl, below_step hBo.bel hB⟩
theorem reads_row (a0 : Option Addr) (len0 cap0 : Nat) (z0 : List Int) (a1 : Option Addr) (len1 cap1 : Nat) (w : World)
    (w0 : (a0 = none ∧ len0 = 0 ∧ cap0 = 0 ∧ z0 = []) ∨ ∃ x, a0 = some x ∧ len0 ≤ cap0 ∧ cap0 ≤ maxLen ∧ z0.length = cap0 ∧ (∀ i, i < z0.length → w.cell? (x.add i) = some (.int .u8 (z0.getD i 0))) ∧ ∀ n ∈ z0, (Lit.int .u8 n).wf = true) (y0 : len0 * 1 ≤ 140737488351232)
    (w1 : Asks w a1 len1) (hG : HG w) :
    Calls Tryd.prog 5 #[.slice a0 len0 cap0, .slice a1 len1 cap1] w fun e w' => e = .returned (.bool true) ∧ Below w.heap.size w w' := by
  obtain ⟨l0, rfl, hr0, hm0, hw0, hc0⟩ := ReadsInt.ofRowC w0
  by_cases h : 500 < l0.length ∨ 60 < len1
  · exact reads_out a0 l0 cap0 a1 len1 cap1 w h
  · exact reads_walk a0 l0 cap0 a1 len1 cap1 w (by omega) (by omega) hG (Kd.C_of_reads (d := (0 : Int)) (h1 := fun _ => rfl) hr0) hc0 (fun v hv => wf_u8 (hw0 v hv)) w1
end Go.Proofs.YtjmhfbgpebgcmaaDoor.Reads
