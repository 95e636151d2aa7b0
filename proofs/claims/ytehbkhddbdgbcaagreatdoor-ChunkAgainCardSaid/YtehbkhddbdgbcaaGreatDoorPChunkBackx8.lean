/- WRITTEN BY A PROGRAM of this session (wip/tool: a turned copy of the printer), out of the translation: Lean functions with the answers of the Go functions, and the proofs that the Go code comes to them. -/
import Derived.Test.YtehbkhddbdgbcaaGreatDoorPChunkBackx1
import Derived.Test.YtehbkhddbdgbcaaGreatDoorPChunkBackx3
import Derived.Test.YtehbkhddbdgbcaaGreatDoorPChunkBackx4
import Derived.Test.YtehbkhddbdgbcaaGreatDoorPChunkBackx6
import Derived.Test.YtehbkhddbdgbcaaGreatDoorPChunkBackx7
namespace Go.Proofs.YtehbkhddbdgbcaaGreatDoor.PChunkBack
open Go.RowKit Go.Proofs.YtehbkhddbdgbcaaGreatDoorW.PrintWords Go.Proofs.YtehbkhddbdgbcaaGreatDoorW.PrintLast Go.Proofs.YtehbkhddbdgbcaaGreatDoorW.PrintMore
attribute [local go_sem] max2_int min2_int max_two min_two max_three min_three max_four min_four   -- for this text's walks alone
set_option linter.unusedVariables false
set_option linter.unusedSimpArgs false

/-! ### delta_rest: function 77 -/
def delta_rest.l0 : Nat → List Int → List Int → Int → Int → List Int → Int → Int → Int → Option (List Int × Int × Int × Int × Int)
 | 0, _, _, _, _, _, _, _, _ => none
 | k + 1, x11, x46, x47, x48, x1000, x1001, x1002, x1003 => if x48 < x47 then (if 0 ≤ x48 then (if x48 < (x46.length : Int) then ((num_Zag.f (rd x46 x48)).bind fun t253 => (if x11.length < 17592186044416 then (delta_rest.l0 k (x11 ++ [t253]) x46 x47 (wrap64 (x48 + 1)) x1000 x1001 x1002 x1003) else (none))) else (none)) else (none)) else (some (x11, 0, x1001, x1002, x1003))
def delta_rest.f (k : Nat) (s0_0 : List Int) (s0_1 : Int) (s0_2 : Int) (s0_3 : Int) (a1 : Int) : Option (List Int × Int × Int × Int × Int) := (num_Reader_Fix.f k s0_0 s0_1 s0_2 s0_3 1).bind fun bt228 => ((num_Reader_Err.f s0_0 bt228.2.1 bt228.2.2.1 bt228.2.2.2).bind fun bt232 => (if bt232.1 = 0 then (if (wrap64 (bt228.1)) > 64 then (some (([] : List Int), 5, bt232.2.2.1, bt232.2.2.2.1, bt232.2.2.2.2)) else ((num_Reader_Left.f s0_0 bt232.2.2.1 bt232.2.2.2.1 bt232.2.2.2.2).bind fun bt237 => ((num_Reader_Take.f s0_0 bt237.2.1 bt237.2.2.1 bt237.2.2.2 bt237.1).bind fun bt241 => ((bits_Unpack.f k bt241.1 a1 (wrap64 (bt228.1))).bind fun bt247 => (if bt247.2 = 0 then ((bits_Width.f k bt247.1).bind fun t251 => (if t251 = (wrap64 (bt228.1)) then (delta_rest.l0 k ([] : List Int) bt247.1 (bt247.1.length : Int) 0 s0_0 bt241.2.1 bt241.2.2.1 bt241.2.2.2) else (some (([] : List Int), 4, bt241.2.1, bt241.2.2.1, bt241.2.2.2)))) else (some (([] : List Int), bt247.2, bt241.2.1, bt241.2.2.1, bt241.2.2.2))))))) else (some (([] : List Int), bt232.1, bt232.2.2.1, bt232.2.2.2.1, bt232.2.2.2.2))))
set_option maxHeartbeats 8000000 in
set_option maxRecDepth 100000 in
theorem delta_rest.calls (k : Nat) (g : Nat) (s0_0 : List Int) (s0_1 : Int) (s0_2 : Int) (s0_3 : Int) (a1 : Int) (r1 : List Int) (r2 : Int) (r3 : Int) (r4 : Int) (r5 : Int) (w0 w : World) (hI : IsS73 w0 w g s0_0 s0_1 s0_2 s0_3) (hB : Below w0.heap.size w0 w) (h : delta_rest.f k s0_0 s0_1 s0_2 s0_3 a1 = some (r1, r2, r3, r4, r5)) :
  Calls Tryz.prog 77 #[.pointer (some ⟨g, 0, none⟩), .int .i64 a1] w fun e w' => ∃ v0_ : Value, e = .returned (.tuple #[v0_, .int .i64 r2]) ∧ Kd.R (Kd.int .i64) 2 w' w.heap.size (fun _ => True) v0_ r1 ∧ IsS73 w0 w' g s0_0 r3 r4 r5 ∧ Below w0.heap.size w0 w' ∧ KeepBut w w' g none := by
 have HI0 := Aside0.mk hI; have HK := Aside0.mk (KeepBut.refl w g none); have HL := Aside0.mk hB.size; clear hI; have HW0 := Aside0.mk hB.size; have HB := Aside0.mk hB; clear hB; have H : ((num_Reader_Fix.f k s0_0 s0_1 s0_2 s0_3 1).bind fun bt228 => ((num_Reader_Err.f s0_0 bt228.2.1 bt228.2.2.1 bt228.2.2.2).bind fun bt232 => (if bt232.1 = 0 then (if (wrap64 (bt228.1)) > 64 then (some (([] : List Int), 5, bt232.2.2.1, bt232.2.2.2.1, bt232.2.2.2.2)) else ((num_Reader_Left.f s0_0 bt232.2.2.1 bt232.2.2.2.1 bt232.2.2.2.2).bind fun bt237 => ((num_Reader_Take.f s0_0 bt237.2.1 bt237.2.2.1 bt237.2.2.2 bt237.1).bind fun bt241 => ((bits_Unpack.f k bt241.1 a1 (wrap64 (bt228.1))).bind fun bt247 => (if bt247.2 = 0 then ((bits_Width.f k bt247.1).bind fun t251 => (if t251 = (wrap64 (bt228.1)) then (delta_rest.l0 k ([] : List Int) bt247.1 (bt247.1.length : Int) 0 s0_0 bt241.2.1 bt241.2.2.1 bt241.2.2.2) else (some (([] : List Int), 4, bt241.2.1, bt241.2.2.1, bt241.2.2.2)))) else (some (([] : List Int), bt247.2, bt241.2.1, bt241.2.2.1, bt241.2.2.2))))))) else (some (([] : List Int), bt232.1, bt232.2.2.1, bt232.2.2.2.1, bt232.2.2.2.2))))) = some (r1, r2, r3, r4, r5) := h; clear h; replace H := Option.bind_eq_some_iff.mp H; obtain ⟨⟨t228, t229, t230, t231⟩, A30, H⟩ := H; (try dsimp only at H); have A3 := Aside0.mk A30; clear A30; replace H := Option.bind_eq_some_iff.mp H; obtain ⟨⟨t232, t233, t234, t235, t236⟩, A40, H⟩ := H; (try dsimp only at H); have A4 := Aside0.mk A40; clear A40
 by_cases c5 : t232 = 0
 ·rw [if_pos c5] at H; have c5b0 : (t232 == 0) = true := beq_iff_eq.mpr c5; have c5b1 : (t232 != 0) = false := bne_eq_false_iff_eq.mpr c5; clear c5
  by_cases c6 : (wrap64 (t228)) > 64
  ·rw [if_pos c6] at H; have c6b0 : decide (64 < (wrap64 (t228))) = true := decide_eq_true c6; clear c6; simp only [Option.some.injEq, Prod.mk.injEq] at H; obtain ⟨rfl, rfl, rfl, rfl, rfl⟩ := H; go_enter Tryz.func77, Tryz.ntmps77
   go_wp2_with (first | (go_at_call 33; (with_reducible refine (num_Reader_Fix.calls k g s0_0 s0_1 s0_2 s0_3 1 t228 t229 t230 t231 w0 _ ?side1 ?side2 A3.out).mono ?_); (case side1 => exact IU73 HI0.out); (case side2 => exact BV73 HI0.out HB.out); rintro e w7 ⟨rfl, hi, hb, hk⟩; replace HK := KT HK hk; replace HB := Aside0.mk hb; replace HI0 := Aside0.mk hi; clear hb hk hi) | (go_at_call 35; (with_reducible refine (num_Reader_Err.calls g s0_0 t229 t230 t231 t232 t233 t234 t235 t236 w0 _ ?side1 ?side2 A4.out).mono ?_); (case side1 => exact IU73 HI0.out); (case side2 => exact BV73 HI0.out HB.out); rintro e w8 ⟨rfl, hi, hb, hk⟩; replace HK := KT HK hk; replace HB := Aside0.mk hb; replace HI0 := Aside0.mk hi; clear hb hk hi))
   go_ret2
   exact ⟨_, ER, by first | exact Kd.R_nil _ _ _ _ _ | exact Kd.N_nil _ _ _ _ _ | exact Kd.V_nil _ _ _ _ _ | exact Kd.Q_nil _ _ _ _ _ | exact Kd.S_nil _ _ _ _ _, IU73 HI0.out, BV73 HI0.out HB.out, KU HK.out⟩
  ·rw [if_neg c6] at H; have c6b0 : decide (64 < (wrap64 (t228))) = false := decide_eq_false c6; clear c6; replace H := Option.bind_eq_some_iff.mp H; obtain ⟨⟨t237, t238, t239, t240⟩, A90, H⟩ := H; (try dsimp only at H); have A9 := Aside0.mk A90; clear A90; replace H := Option.bind_eq_some_iff.mp H; obtain ⟨⟨t241, t244, t245, t246⟩, A100, H⟩ := H; (try dsimp only at H); have A10 := Aside0.mk A100; clear A100; replace H := Option.bind_eq_some_iff.mp H; obtain ⟨⟨t247, t248⟩, A110, H⟩ := H; (try dsimp only at H); have A11 := Aside0.mk A110; clear A110
   by_cases c12 : t248 = 0
   ·rw [if_pos c12] at H; have c12b0 : (t248 == 0) = true := beq_iff_eq.mpr c12; have c12b1 : (t248 != 0) = false := bne_eq_false_iff_eq.mpr c12; clear c12; replace H := Option.bind_eq_some_iff.mp H; obtain ⟨t251, A130, H⟩ := H; (try dsimp only at H); have A13 := Aside0.mk A130; clear A130
    by_cases c14 : t251 = (wrap64 (t228))
    ·rw [if_pos c14] at H; have c14b0 : (t251 == (wrap64 (t228))) = true := beq_iff_eq.mpr c14; have c14b1 : (t251 != (wrap64 (t228))) = false := bne_eq_false_iff_eq.mpr c14; clear c14; have H' := Aside0.mk H; clear H; go_enter Tryz.func77, Tryz.ntmps77
     go_wp2_with (first | (go_at_call 33; (with_reducible refine (num_Reader_Fix.calls k g s0_0 s0_1 s0_2 s0_3 1 t228 t229 t230 t231 w0 _ ?side1 ?side2 A3.out).mono ?_); (case side1 => exact IU73 HI0.out); (case side2 => exact BV73 HI0.out HB.out); rintro e w15 ⟨rfl, hi, hb, hk⟩; replace HK := KT HK hk; replace HB := Aside0.mk hb; replace HI0 := Aside0.mk hi; clear hb hk hi) | (go_at_call 35; (with_reducible refine (num_Reader_Err.calls g s0_0 t229 t230 t231 t232 t233 t234 t235 t236 w0 _ ?side1 ?side2 A4.out).mono ?_); (case side1 => exact IU73 HI0.out); (case side2 => exact BV73 HI0.out HB.out); rintro e w16 ⟨rfl, hi, hb, hk⟩; replace HK := KT HK hk; replace HB := Aside0.mk hb; replace HI0 := Aside0.mk hi; clear hb hk hi) | (go_at_call 23; (with_reducible refine (num_Reader_Left.calls g s0_0 t234 t235 t236 t237 t238 t239 t240 w0 _ ?side1 ?side2 A9.out).mono ?_); (case side1 => exact IU73 HI0.out); (case side2 => exact BV73 HI0.out HB.out); rintro e w17 ⟨rfl, hi, hb, hk⟩; replace HK := KT HK hk; replace HB := Aside0.mk hb; replace HI0 := Aside0.mk hi; clear hb hk hi) | (go_at_call 22; (with_reducible refine (num_Reader_Take.calls g s0_0 t238 t239 t240 t237 t241 t244 t245 t246 w0 _ ?side1 ?side2 A10.out).mono ?_); (case side1 => exact IU73 HI0.out); (case side2 => exact BV73 HI0.out HB.out); rintro e w18 ⟨v242, rfl, ho0, hi, hb, hk⟩; have HO243 := Aside0.mk (Kd.R_lower ho0 (keep_size (w := w) (g := g) (row := none) (KU HK.out))); replace HK := KT HK hk; replace HB := Aside0.mk hb; replace HI0 := Aside0.mk hi; clear hb hk hi ho0; obtain ⟨Ao19, co19, eo19⟩ := Kd.R_slice HO243.out; subst eo19) | (go_at_call 40; (with_reducible refine (bits_Unpack.calls k _ _ t241 a1 (wrap64 (t228)) t247 t248 _ ?side1 ?side2 A11.out).mono ?_); (case side1 => exact CU ((Kd.R_reads' HO243.out).2.2)); (case side2 => exact (Kd.R_reads' HO243.out).2.1); rintro e w20 ⟨v249, rfl, ho0, hb⟩; replace HO243 := Aside0.mk (Kd.R_below (RU HO243.out) hb); have HO250 := Aside0.mk (Kd.R_lower ho0 (keep_size (w := w) (g := g) (row := none) (KU HK.out))); replace HK := Aside0.mk (KeepBut.trans (KU HK.out) (KeepBut.of_below hb g none) (.inl rfl)); replace HB := Aside0.mk (below_step (BV73 HI0.out HB.out) hb); replace HI0 := Aside0.mk (IsS73.below (IU73 HI0.out) hb); clear hb ho0; obtain ⟨Ao21, co21, eo21⟩ := Kd.R_slice HO250.out; subst eo21) | (go_at_call 76; (with_reducible refine (bits_Width.calls k _ _ t247 t251 _ ?side1 ?side2 A13.out).mono ?_); (case side1 => exact CU ((Kd.R_reads' HO250.out).2.2)); (case side2 => exact (Kd.R_reads' HO250.out).2.1); rintro e w' ⟨rfl, ⟨nd, rfl⟩⟩))
     go_loopg [11, 48] k (fun kq v11 v48 w' => ∃ (x11_1 : List Int) (x48_1 : Int), v48 = .int .i64 x48_1 ∧ Aside0 (delta_rest.l0 kq x11_1 t247 (t247.length : Int) x48_1 s0_0 t244 t245 t246 = some (r1, r2, r3, r4, r5)) ∧ Aside0 (kq ≤ k) ∧ Aside0 (Kd.R (Kd.int .i64) 2 w' w.heap.size (fun _ => True) v11 x11_1) ∧ Aside0 (Kd.R (Kd.int .u64) 75 w' w.heap.size (fun _ => True) (.slice Ao21 t247.length co21) t247) ∧ Aside0 (IsS73 w0 w' g s0_0 t244 t245 t246) ∧ Aside0 (KeepBut w w' g none) ∧ Aside0 (Below w0.heap.size w0 w'))
     case atStart => exact ⟨(([] : List Int)), (0), EB, H', ⟨Nat.le_refl _⟩, ⟨by first | exact Kd.R_nil _ _ _ _ _ | exact Kd.N_nil _ _ _ _ _ | exact Kd.V_nil _ _ _ _ _ | exact Kd.Q_nil _ _ _ _ _ | exact Kd.S_nil _ _ _ _ _⟩, ⟨RU HO250.out⟩, ⟨IU73 HI0.out⟩, ⟨KU HK.out⟩, ⟨BV73 HI0.out HB.out⟩⟩
     case round =>
      clear H'; (try clear c1); (try clear c2); (try clear p2); (try clear c3); (try clear c4); (try clear c5); (try clear c5b0); (try clear c5b1); (try clear c6); (try clear c6b0); (try clear p6); (try clear c7); (try clear c12); (try clear c12b0); (try clear c12b1); (try clear c14); (try clear c14b0); (try clear c14b1); obtain ⟨x11_1, x48_1, rfl, HA, HK1, HO_11, HO_46, HI0, HK, HB⟩ := hrel
      cases gk with
      | zero => exact absurd HA.out (by simp [delta_rest.l0])
      | succ k1 =>
       have H := HA.out; clear HA; simp only [delta_rest.l0] at H
       by_cases c22 : x48_1 < (t247.length : Int)
       ·rw [if_pos c22] at H; have c22b0 := decide_eq_true c22; clear c22
        by_cases c23 : 0 ≤ x48_1
        ·rw [if_pos c23] at H; have c23b0 := decide_eq_true c23; clear c23
         by_cases c24 : x48_1 < (t247.length : Int)
         ·rw [if_pos c24] at H; have c24b0 := decide_eq_true c24; clear c24; replace H := Option.bind_eq_some_iff.mp H; obtain ⟨t253, A250, H⟩ := H; (try dsimp only at H); have A25 := Aside0.mk A250; clear A250
          by_cases c26 : x11_1.length < 17592186044416
          ·rw [if_pos c26] at H; have LMc26 := Aside0.mk c26; clear c26
           obtain ⟨y254, hy254⟩ : ∃ y_ : List Int, y_ = (x11_1 ++ [t253]) := ⟨_, rfl⟩
           replace H : (delta_rest.l0 k1 y254 t247 (t247.length : Int) (wrap64 (x48_1 + 1)) s0_0 t244 t245 t246) = some (r1, r2, r3, r4, r5) := HY hy254 H; have Ny254 := Aside0.mk hy254; clear hy254; have H' := Aside0.mk H; clear H; have p252 : 0 ≤ (x48_1 : Int) := OD; have q252 : x48_1 < (t247.length : Int) := OD; obtain ⟨ad252, e252, hx252_0⟩ := Kd.at_int (Kd.R_reads' HO_46.out).2.2 x48_1 p252 q252
           cases e252
           replace p252 := eq_true p252; replace q252 := eq_true q252
           go_wp2_with (first | (go_at_call 71; (with_reducible refine (num_Zag.calls (rd t247 x48_1) t253 _ A25.out).mono ?_); rintro e w' ⟨rfl, ⟨nd, rfl⟩⟩) | ((with_reducible refine gate_builtin (b := .append) (xs := #[.tmp 52, .tmp 55]) rfl ?_); at_builtin; refine Kd.R_append (Kd.int .i64) w.heap.size rfl (.tmp 52) (.tmp 55) 51 2 (.int .i64 0) 8 rfl Tryz.underlying51 info2 rfl (by decide) (by omega) u11 x11_1 t253 [.int .i64 t253] (fun _ => True) (fun _ => False) rfl rfl ?aP (fun _ hk => hk.elim) ?aF ?aO (Below.refl _ _) ?aS ?aL ?_; (case aP => exact rfl); (case aF => exact (fun _ _ => trivial)); (case aO => exact (RU HO_11.out)); (case aS => exact (keep_size (w := w) (g := g) (row := none) (KU HK.out))); (case aL => have := LMc26.out; omega); intro v255 w27 ho hb hg hat; rw [← Ny254.out] at ho; replace HO_46 := Aside0.mk (Kd.R_over' (RU HO_46.out) (Kd.R_typed (RU HO_11.out)) (by decide) hg); replace HB := Aside0.mk (below_weaken (BV73 HI0.out HB.out) HL.out hb); replace HI0 := Aside0.mk (IsS73.grown (IU73 HI0.out) hg (IsS73.own_ne HI0.out HO_11.out (by decide))); replace HK := Aside0.mk (KeepBut.trans (KU HK.out) (KeepBut.of_grown hg g) (Kd.R_base2 HO_11.out)); have HO256 := Aside0.mk ho; clear HO_11; clear ho hb hg hat))
           go_roundg k1
           case measure => have := HK1.out; omega
           case rel => exact ⟨(y254), (wrap64 (x48_1 + 1)), EB, H', ⟨by have := HK1.out; omega⟩, ⟨RU HO256.out⟩, ⟨RU HO_46.out⟩, ⟨IU73 HI0.out⟩, ⟨KU HK.out⟩, ⟨BV73 HI0.out HB.out⟩⟩
          ·rw [if_neg c26] at H; exact absurd H (by simp)
         ·rw [if_neg c24] at H; exact absurd H (by simp)
        ·rw [if_neg c23] at H; exact absurd H (by simp)
       ·rw [if_neg c22] at H; have c22b0 := decide_eq_false c22; clear c22; simp only [Option.some.injEq, Prod.mk.injEq] at H; obtain ⟨rfl, rfl, rfl, rfl, rfl⟩ := H; go_wp2
        go_ret2
        exact ⟨_, ER, RU HO_11.out, IU73 HI0.out, BV73 HI0.out HB.out, KU HK.out⟩
    ·rw [if_neg c14] at H; have c14b0 : (t251 == (wrap64 (t228))) = false := beq_eq_false_iff_ne.mpr c14; have c14b1 : (t251 != (wrap64 (t228))) = true := bne_iff_ne.mpr c14; simp only [Option.some.injEq, Prod.mk.injEq] at H; obtain ⟨rfl, rfl, rfl, rfl, rfl⟩ := H; go_enter Tryz.func77, Tryz.ntmps77
     go_wp2_with (first | (go_at_call 33; (with_reducible refine (num_Reader_Fix.calls k g s0_0 s0_1 s0_2 s0_3 1 t228 t229 t230 t231 w0 _ ?side1 ?side2 A3.out).mono ?_); (case side1 => exact IU73 HI0.out); (case side2 => exact BV73 HI0.out HB.out); rintro e w28 ⟨rfl, hi, hb, hk⟩; replace HK := KT HK hk; replace HB := Aside0.mk hb; replace HI0 := Aside0.mk hi; clear hb hk hi) | (go_at_call 35; (with_reducible refine (num_Reader_Err.calls g s0_0 t229 t230 t231 t232 t233 t234 t235 t236 w0 _ ?side1 ?side2 A4.out).mono ?_); (case side1 => exact IU73 HI0.out); (case side2 => exact BV73 HI0.out HB.out); rintro e w29 ⟨rfl, hi, hb, hk⟩; replace HK := KT HK hk; replace HB := Aside0.mk hb; replace HI0 := Aside0.mk hi; clear hb hk hi) | (go_at_call 23; (with_reducible refine (num_Reader_Left.calls g s0_0 t234 t235 t236 t237 t238 t239 t240 w0 _ ?side1 ?side2 A9.out).mono ?_); (case side1 => exact IU73 HI0.out); (case side2 => exact BV73 HI0.out HB.out); rintro e w30 ⟨rfl, hi, hb, hk⟩; replace HK := KT HK hk; replace HB := Aside0.mk hb; replace HI0 := Aside0.mk hi; clear hb hk hi) | (go_at_call 22; (with_reducible refine (num_Reader_Take.calls g s0_0 t238 t239 t240 t237 t241 t244 t245 t246 w0 _ ?side1 ?side2 A10.out).mono ?_); (case side1 => exact IU73 HI0.out); (case side2 => exact BV73 HI0.out HB.out); rintro e w31 ⟨v242, rfl, ho0, hi, hb, hk⟩; have HO243 := Aside0.mk (Kd.R_lower ho0 (keep_size (w := w) (g := g) (row := none) (KU HK.out))); replace HK := KT HK hk; replace HB := Aside0.mk hb; replace HI0 := Aside0.mk hi; clear hb hk hi ho0; obtain ⟨Ao32, co32, eo32⟩ := Kd.R_slice HO243.out; subst eo32) | (go_at_call 40; (with_reducible refine (bits_Unpack.calls k _ _ t241 a1 (wrap64 (t228)) t247 t248 _ ?side1 ?side2 A11.out).mono ?_); (case side1 => exact CU ((Kd.R_reads' HO243.out).2.2)); (case side2 => exact (Kd.R_reads' HO243.out).2.1); rintro e w33 ⟨v249, rfl, ho0, hb⟩; replace HO243 := Aside0.mk (Kd.R_below (RU HO243.out) hb); have HO250 := Aside0.mk (Kd.R_lower ho0 (keep_size (w := w) (g := g) (row := none) (KU HK.out))); replace HK := Aside0.mk (KeepBut.trans (KU HK.out) (KeepBut.of_below hb g none) (.inl rfl)); replace HB := Aside0.mk (below_step (BV73 HI0.out HB.out) hb); replace HI0 := Aside0.mk (IsS73.below (IU73 HI0.out) hb); clear hb ho0; obtain ⟨Ao34, co34, eo34⟩ := Kd.R_slice HO250.out; subst eo34) | (go_at_call 76; (with_reducible refine (bits_Width.calls k _ _ t247 t251 _ ?side1 ?side2 A13.out).mono ?_); (case side1 => exact CU ((Kd.R_reads' HO250.out).2.2)); (case side2 => exact (Kd.R_reads' HO250.out).2.1); rintro e w' ⟨rfl, ⟨nd, rfl⟩⟩))
     go_ret2
     exact ⟨_, ER, by first | exact Kd.R_nil _ _ _ _ _ | exact Kd.N_nil _ _ _ _ _ | exact Kd.V_nil _ _ _ _ _ | exact Kd.Q_nil _ _ _ _ _ | exact Kd.S_nil _ _ _ _ _, IU73 HI0.out, BV73 HI0.out HB.out, KU HK.out⟩
   ·rw [if_neg c12] at H; have c12b0 : (t248 == 0) = false := beq_eq_false_iff_ne.mpr c12; have c12b1 : (t248 != 0) = true := bne_iff_ne.mpr c12; simp only [Option.some.injEq, Prod.mk.injEq] at H; obtain ⟨rfl, rfl, rfl, rfl, rfl⟩ := H; go_enter Tryz.func77, Tryz.ntmps77
    go_wp2_with (first | (go_at_call 33; (with_reducible refine (num_Reader_Fix.calls k g s0_0 s0_1 s0_2 s0_3 1 t228 t229 t230 t231 w0 _ ?side1 ?side2 A3.out).mono ?_); (case side1 => exact IU73 HI0.out); (case side2 => exact BV73 HI0.out HB.out); rintro e w35 ⟨rfl, hi, hb, hk⟩; replace HK := KT HK hk; replace HB := Aside0.mk hb; replace HI0 := Aside0.mk hi; clear hb hk hi) | (go_at_call 35; (with_reducible refine (num_Reader_Err.calls g s0_0 t229 t230 t231 t232 t233 t234 t235 t236 w0 _ ?side1 ?side2 A4.out).mono ?_); (case side1 => exact IU73 HI0.out); (case side2 => exact BV73 HI0.out HB.out); rintro e w36 ⟨rfl, hi, hb, hk⟩; replace HK := KT HK hk; replace HB := Aside0.mk hb; replace HI0 := Aside0.mk hi; clear hb hk hi) | (go_at_call 23; (with_reducible refine (num_Reader_Left.calls g s0_0 t234 t235 t236 t237 t238 t239 t240 w0 _ ?side1 ?side2 A9.out).mono ?_); (case side1 => exact IU73 HI0.out); (case side2 => exact BV73 HI0.out HB.out); rintro e w37 ⟨rfl, hi, hb, hk⟩; replace HK := KT HK hk; replace HB := Aside0.mk hb; replace HI0 := Aside0.mk hi; clear hb hk hi) | (go_at_call 22; (with_reducible refine (num_Reader_Take.calls g s0_0 t238 t239 t240 t237 t241 t244 t245 t246 w0 _ ?side1 ?side2 A10.out).mono ?_); (case side1 => exact IU73 HI0.out); (case side2 => exact BV73 HI0.out HB.out); rintro e w38 ⟨v242, rfl, ho0, hi, hb, hk⟩; have HO243 := Aside0.mk (Kd.R_lower ho0 (keep_size (w := w) (g := g) (row := none) (KU HK.out))); replace HK := KT HK hk; replace HB := Aside0.mk hb; replace HI0 := Aside0.mk hi; clear hb hk hi ho0; obtain ⟨Ao39, co39, eo39⟩ := Kd.R_slice HO243.out; subst eo39) | (go_at_call 40; (with_reducible refine (bits_Unpack.calls k _ _ t241 a1 (wrap64 (t228)) t247 t248 _ ?side1 ?side2 A11.out).mono ?_); (case side1 => exact CU ((Kd.R_reads' HO243.out).2.2)); (case side2 => exact (Kd.R_reads' HO243.out).2.1); rintro e w40 ⟨v249, rfl, ho0, hb⟩; replace HO243 := Aside0.mk (Kd.R_below (RU HO243.out) hb); have HO250 := Aside0.mk (Kd.R_lower ho0 (keep_size (w := w) (g := g) (row := none) (KU HK.out))); replace HK := Aside0.mk (KeepBut.trans (KU HK.out) (KeepBut.of_below hb g none) (.inl rfl)); replace HB := Aside0.mk (below_step (BV73 HI0.out HB.out) hb); replace HI0 := Aside0.mk (IsS73.below (IU73 HI0.out) hb); clear hb ho0))
    go_ret2
    exact ⟨_, ER, by first | exact Kd.R_nil _ _ _ _ _ | exact Kd.N_nil _ _ _ _ _ | exact Kd.V_nil _ _ _ _ _ | exact Kd.Q_nil _ _ _ _ _ | exact Kd.S_nil _ _ _ _ _, IU73 HI0.out, BV73 HI0.out HB.out, KU HK.out⟩
 ·rw [if_neg c5] at H; have c5b0 : (t232 == 0) = false := beq_eq_false_iff_ne.mpr c5; have c5b1 : (t232 != 0) = true := bne_iff_ne.mpr c5; simp only [Option.some.injEq, Prod.mk.injEq] at H; obtain ⟨rfl, rfl, rfl, rfl, rfl⟩ := H; go_enter Tryz.func77, Tryz.ntmps77
  go_wp2_with (first | (go_at_call 33; (with_reducible refine (num_Reader_Fix.calls k g s0_0 s0_1 s0_2 s0_3 1 t228 t229 t230 t231 w0 _ ?side1 ?side2 A3.out).mono ?_); (case side1 => exact IU73 HI0.out); (case side2 => exact BV73 HI0.out HB.out); rintro e w41 ⟨rfl, hi, hb, hk⟩; replace HK := KT HK hk; replace HB := Aside0.mk hb; replace HI0 := Aside0.mk hi; clear hb hk hi) | (go_at_call 35; (with_reducible refine (num_Reader_Err.calls g s0_0 t229 t230 t231 t232 t233 t234 t235 t236 w0 _ ?side1 ?side2 A4.out).mono ?_); (case side1 => exact IU73 HI0.out); (case side2 => exact BV73 HI0.out HB.out); rintro e w42 ⟨rfl, hi, hb, hk⟩; replace HK := KT HK hk; replace HB := Aside0.mk hb; replace HI0 := Aside0.mk hi; clear hb hk hi))
  go_ret2
  exact ⟨_, ER, by first | exact Kd.R_nil _ _ _ _ _ | exact Kd.N_nil _ _ _ _ _ | exact Kd.V_nil _ _ _ _ _ | exact Kd.Q_nil _ _ _ _ _ | exact Kd.S_nil _ _ _ _ _, IU73 HI0.out, BV73 HI0.out HB.out, KU HK.out⟩

/-! ### delta_Sums: function 78 -/
def delta_Sums.l0 : Nat → List Int → Int → List Int → Int → Int → Option (List Int)
 | 0, _, _, _, _, _ => none
 | k + 1, x3, x4, x7, x8, x9 => if x9 < x8 then (if 0 ≤ x9 then (if x9 < (x7.length : Int) then (if x3.length < 17592186044416 then (delta_Sums.l0 k (x3 ++ [wrap64 (x4 + (rd x7 x9))]) (wrap64 (x4 + (rd x7 x9))) x7 x8 (wrap64 (x9 + 1))) else (none)) else (none)) else (none)) else (some x3)
def delta_Sums.f (k : Nat) (l0 : List Int) : Option (List Int) := delta_Sums.l0 k ([] : List Int) 0 l0 (l0.length : Int) 0
set_option maxHeartbeats 8000000 in
set_option maxRecDepth 100000 in
theorem delta_Sums.calls (k : Nat) (A0 : Option Addr) (c0 : Nat) (l0 : List Int) (r : List Int) (w : World) (hr0 : Kd.C (Kd.int .i64) w A0 l0.length l0) (hc0 : l0.length ≤ c0) (h : delta_Sums.f k l0 = some r) :
  Calls Tryz.prog 78 #[.slice A0 l0.length c0] w fun e w' => ∃ v0_ : Value, e = .returned (v0_) ∧ Kd.R (Kd.int .i64) 2 w' w.heap.size (fun _ => True) v0_ r ∧ Below w.heap.size w w' := by
 have HR0 := Aside0.mk hr0; have HC0 := Aside0.mk hc0; clear hr0 hc0; have HB := Aside0.mk (Below.refl w.heap.size w); have H : (delta_Sums.l0 k ([] : List Int) 0 l0 (l0.length : Int) 0) = some r := h; clear h; have H' := Aside0.mk H; clear H; go_enter Tryz.func78, Tryz.ntmps78; go_wp2
 go_loopg [3, 4, 9] k (fun kq v3 v4 v9 w' => ∃ (x3_1 : List Int) (x4_1 : Int) (x9_1 : Int), v4 = .int .i64 x4_1 ∧ v9 = .int .i64 x9_1 ∧ Aside0 (delta_Sums.l0 kq x3_1 x4_1 l0 (l0.length : Int) x9_1 = some r) ∧ Aside0 (kq ≤ k) ∧ Aside0 (Kd.R (Kd.int .i64) 2 w' w.heap.size (fun _ => True) v3 x3_1) ∧ Aside0 (Below w.heap.size w w'))
 case atStart => exact ⟨(([] : List Int)), (0), (0), EB, EB, H', ⟨Nat.le_refl _⟩, ⟨by first | exact Kd.R_nil _ _ _ _ _ | exact Kd.N_nil _ _ _ _ _ | exact Kd.V_nil _ _ _ _ _ | exact Kd.Q_nil _ _ _ _ _ | exact Kd.S_nil _ _ _ _ _⟩, ⟨BU HB.out⟩⟩
 case round =>
  clear H'; obtain ⟨x3_1, x4_1, x9_1, rfl, rfl, HA, HK1, HO_3, HB⟩ := hrel
  cases gk with
  | zero => exact absurd HA.out (by simp [delta_Sums.l0])
  | succ k1 =>
   have H := HA.out; clear HA; simp only [delta_Sums.l0] at H
   by_cases c2 : x9_1 < (l0.length : Int)
   ·rw [if_pos c2] at H; have c2b0 := decide_eq_true c2; clear c2
    by_cases c3 : 0 ≤ x9_1
    ·rw [if_pos c3] at H; have c3b0 := decide_eq_true c3; clear c3
     by_cases c4 : x9_1 < (l0.length : Int)
     ·rw [if_pos c4] at H; have c4b0 := decide_eq_true c4; clear c4
      by_cases c5 : x3_1.length < 17592186044416
      ·rw [if_pos c5] at H; have LMc5 := Aside0.mk c5; clear c5
       obtain ⟨y258, hy258⟩ : ∃ y_ : List Int, y_ = (x3_1 ++ [wrap64 (x4_1 + (rd l0 x9_1))]) := ⟨_, rfl⟩
       replace H : (delta_Sums.l0 k1 y258 (wrap64 (x4_1 + (rd l0 x9_1))) l0 (l0.length : Int) (wrap64 (x9_1 + 1))) = some r := HY hy258 H; have Ny258 := Aside0.mk hy258; clear hy258; have H' := Aside0.mk H; clear H; have p257 : 0 ≤ (x9_1 : Int) := OD; have q257 : x9_1 < (l0.length : Int) := OD; obtain ⟨ad257, e257, hx257_0⟩ := Kd.at_int HR0.out x9_1 p257 q257
       cases e257
       replace hx257_0 := (HB.out.cell (World.block_lt_of_cell? w _ hx257_0)).trans hx257_0; replace p257 := eq_true p257; replace q257 := eq_true q257
       go_wp2_with (first | ((with_reducible refine gate_builtin (b := .append) (xs := #[.tmp 16, .tmp 18]) rfl ?_); at_builtin; refine Kd.R_append (Kd.int .i64) (w0 := w) w.heap.size rfl (.tmp 16) (.tmp 18) 51 2 (.int .i64 0) 8 rfl Tryz.underlying51 info2 rfl (by decide) (by omega) u3 x3_1 (wrap64 (x4_1 + (rd l0 x9_1))) [.int .i64 (wrap64 (x4_1 + (rd l0 x9_1)))] (fun _ => True) (fun _ => False) rfl rfl ?aP (fun _ hk => hk.elim) ?aF ?aO ?aB ?aS ?aL ?_; (case aP => exact rfl); (case aB => exact (BU HB.out)); (case aF => exact (fun _ _ => trivial)); (case aO => exact (RU HO_3.out)); (case aS => exact (below_size (BU HB.out))); (case aL => have := LMc5.out; omega); intro v259 w6 ho hb hg hat; rw [← Ny258.out] at ho; replace HB := Aside0.mk hb; have HO260 := Aside0.mk ho; clear HO_3; clear ho hb hg hat))
       go_roundg k1
       case measure => have := HK1.out; omega
       case rel => exact ⟨(y258), (wrap64 (x4_1 + (rd l0 x9_1))), (wrap64 (x9_1 + 1)), EB, EB, H', ⟨by have := HK1.out; omega⟩, ⟨RU HO260.out⟩, ⟨BU HB.out⟩⟩
      ·rw [if_neg c5] at H; exact absurd H (by simp)
     ·rw [if_neg c4] at H; exact absurd H (by simp)
    ·rw [if_neg c3] at H; exact absurd H (by simp)
   ·rw [if_neg c2] at H; have c2b0 := decide_eq_false c2; clear c2; obtain rfl := Option.some.inj H; go_wp2
    go_ret
    exact ⟨_, ER, RU HO_3.out, BU HB.out⟩

/-! ### delta_Get: function 48 -/
mutual
def delta_Get.j0 : Nat → List Int → Int → Bool → Option (List Int × Int)
 | 0, _, _, _ => none
 | k + 1, x0, x1, x19 => if x19 = true then (some (([] : List Int), 1)) else ((num_NewReader.f x0).bind fun bt261 => (if x1 > 0 then ((num_Reader_Var.f k bt261.1 bt261.2.1 bt261.2.2.1 bt261.2.2.2).bind fun bt266 => ((num_Zag.f bt266.1).bind fun t270 => (if ([] : List Int).length < 17592186044416 then (delta_Get.j1 k x1 (([] : List Int) ++ [t270]) bt261.1 bt266.2.1 bt266.2.2.1 bt266.2.2.2) else (none)))) else (delta_Get.j1 k x1 ([] : List Int) bt261.1 bt261.2.1 bt261.2.2.1 bt261.2.2.2)))
def delta_Get.j1 : Nat → Int → List Int → List Int → Int → Int → Int → Option (List Int × Int)
 | 0, _, _, _, _, _, _ => none
 | k + 1, x1, x7, x266000, x266001, x266002, x266003 => (num_Reader_Err.f x266000 x266001 x266002 x266003).bind fun bt274 => (if bt274.1 = 0 then (if x1 > 1 then ((delta_rest.f k x266000 bt274.2.2.1 bt274.2.2.2.1 bt274.2.2.2.2 (wrap64 (x1 - 1))).bind fun bt279 => (if bt279.2.1 = 0 then (if x7.length + bt279.1.length < 17592186044416 then (delta_Get.j2 k (x7 ++ bt279.1) x266000 bt279.2.2.1 bt279.2.2.2.1 bt279.2.2.2.2) else (none)) else (some (([] : List Int), bt279.2.1)))) else (delta_Get.j2 k x7 x266000 bt274.2.2.1 bt274.2.2.2.1 bt274.2.2.2.2)) else (some (([] : List Int), bt274.1)))
def delta_Get.j2 : Nat → List Int → List Int → Int → Int → Int → Option (List Int × Int)
 | 0, _, _, _, _, _ => none
 | k + 1, x7, x266000, x266001, x266002, x266003 => (num_Reader_End.f x266000 x266001 x266002 x266003).bind fun bt289 => (if bt289.1 = 0 then ((delta_Sums.f k x7).bind fun t294 => (some (t294, 0))) else (some (([] : List Int), bt289.1)))
end
def delta_Get.f (k : Nat) (l0 : List Int) (a1 : Int) : Option (List Int × Int) := if a1 < 0 then (delta_Get.j0 k l0 a1 true) else (delta_Get.j0 k l0 a1 (decide (a1 > 65536)))
set_option maxHeartbeats 8000000 in
set_option maxRecDepth 100000 in
theorem delta_Get.calls (k : Nat) (A0 : Option Addr) (c0 : Nat) (l0 : List Int) (a1 : Int) (r1 : List Int) (r2 : Int) (w : World) (hr0 : Kd.C (Kd.int .u8) w A0 l0.length l0) (hc0 : l0.length ≤ c0) (hG : HG w) (h : delta_Get.f k l0 a1 = some (r1, r2)) :
  Calls Tryz.prog 48 #[.slice A0 l0.length c0, .int .i64 a1] w fun e w' => ∃ v0_ : Value, e = .returned (.tuple #[v0_, .int .i64 r2]) ∧ Kd.R (Kd.int .i64) 2 w' w.heap.size (fun _ => True) v0_ r1 ∧ Below w.heap.size w w' := by
 have HR0 := Aside0.mk hr0; have HC0 := Aside0.mk hc0; clear hr0 hc0; have HB := Aside0.mk (Below.refl w.heap.size w); have H : (if a1 < 0 then (delta_Get.j0 k l0 a1 true) else (delta_Get.j0 k l0 a1 (decide (a1 > 65536)))) = some (r1, r2) := h; clear h; have HC3 := Aside0.mk H; clear H; go_enter Tryz.func48, Tryz.ntmps48
 go_upto_region 1 with (fail)
 go_cut [19] (fun v19 wc => ∃ (kq : Nat) (x19_2 : Bool), v19 = .bool x19_2 ∧ Aside0 (delta_Get.j0 kq l0 a1 x19_2 = some (r1, r2)) ∧ Aside0 (kq ≤ k) ∧ Aside0 (Below w.heap.size w wc))
 case first =>
  have H := HC3.out; clear HC3
  by_cases c4 : a1 < 0
  ·rw [if_pos c4] at H; have c4b0 := decide_eq_true c4; clear c4
   (first | rw [c4b0] | (simp only [i64_w, i32_w]; rw [c4b0]) | skip)
   have H' := Aside0.mk H; clear H; go_wp2; go_meet
   case rel => exact ⟨_, (true), EB, H', ⟨by first | omega | exact Nat.le_refl _⟩, ⟨BU HB.out⟩⟩
  ·rw [if_neg c4] at H; have c4b0 := decide_eq_false c4; clear c4
   (first | rw [c4b0] | (simp only [i64_w, i32_w]; rw [c4b0]) | skip)
   have H' := Aside0.mk H; clear H; go_wp2; go_meet
   case rel => exact ⟨_, (decide (a1 > 65536)), EB, H', ⟨by first | omega | exact Nat.le_refl _⟩, ⟨BU HB.out⟩⟩
 case rest =>
  clear HC3; (try clear p2); (try clear c4); (try clear c4b0); obtain ⟨kq, x19_2, rfl, HA, HJ2, HB⟩ := hcut
  cases kq with
  | zero => exact absurd HA.out (by simp [delta_Get.j0])
  | succ kj2 =>
   have H := HA.out; clear HA; simp only [delta_Get.j0] at H
   by_cases c5 : x19_2 = true
   ·subst c5
    have H1 : (some (([] : List Int), 1)) = some (r1, r2) := by rw [if_pos rfl] at H; exact H
    clear H; have H := H1; clear H1; simp only [Option.some.injEq, Prod.mk.injEq] at H; obtain ⟨rfl, rfl⟩ := H; go_wp2
    go_ret2
    exact ⟨_, ER, by first | exact Kd.R_nil _ _ _ _ _ | exact Kd.N_nil _ _ _ _ _ | exact Kd.V_nil _ _ _ _ _ | exact Kd.Q_nil _ _ _ _ _ | exact Kd.S_nil _ _ _ _ _, BU HB.out⟩
   ·replace c5 := Bool.eq_false_iff.mpr c5; subst c5
    have H1 : ((num_NewReader.f l0).bind fun bt261 => (if a1 > 0 then ((num_Reader_Var.f kj2 bt261.1 bt261.2.1 bt261.2.2.1 bt261.2.2.2).bind fun bt266 => ((num_Zag.f bt266.1).bind fun t270 => (if ([] : List Int).length < 17592186044416 then (delta_Get.j1 kj2 a1 (([] : List Int) ++ [t270]) bt261.1 bt266.2.1 bt266.2.2.1 bt266.2.2.2) else (none)))) else (delta_Get.j1 kj2 a1 ([] : List Int) bt261.1 bt261.2.1 bt261.2.2.1 bt261.2.2.2))) = some (r1, r2) := by rw [if_neg (show ¬ (false = true) by decide)] at H; exact H
    clear H; have H := H1; clear H1; replace H := Option.bind_eq_some_iff.mp H; obtain ⟨⟨t261, t262, t263, t264⟩, A60, H⟩ := H; (try dsimp only at H); have A6 := Aside0.mk A60; clear A60; have HC7 := Aside0.mk H; clear H
    go_upto_if 23 with (first | ((with_reducible refine gate_callee (f := 18) rfl ?_); refine goesL_ (some 21) rfl rfl Tryz.func18 (by kernel_rfl) rfl #[.slice A0 l0.length c0] rfl EA ?_; (with_reducible refine (num_NewReader.calls _ _ l0 t261 t262 t263 t264 w _ ?side1 ?side2 ?side3 hG A6.out).mono ?_); (case side1 => exact BU HB.out); (case side2 => exact CU ((Kd.C_below HR0.out HB.out))); (case side3 => exact HC0.out); rintro e w8 ⟨g265, rfl, hi, hb, hb2⟩; refine ⟨_, rfl, ?_⟩; replace HB := Aside0.mk hb; have HI265 := Aside0.mk hi; clear hb hb2 hi))
    (try simp only [Act.put, List.setIfInBounds_toArray, List.set_cons_zero, List.set_cons_succ])
    go_cut [7] (fun v7 wc => ∃ (kq : Nat) (x7_6 : List Int) (x266001_6 : Int) (x266002_6 : Int) (x266003_6 : Int), Aside0 (delta_Get.j1 kq a1 x7_6 t261 x266001_6 x266002_6 x266003_6 = some (r1, r2)) ∧ Aside0 (kq ≤ kj2) ∧ Aside0 (Kd.R (Kd.int .i64) 2 wc w.heap.size (fun _ => True) v7 x7_6) ∧ Aside0 (IsS73 w wc g265 t261 x266001_6 x266002_6 x266003_6) ∧ Aside0 (Below w.heap.size w wc))
    case first =>
     have H := HC7.out; clear HC7
     by_cases c9 : a1 > 0
     ·rw [if_pos c9] at H; have c9b0 : decide (0 < a1) = true := decide_eq_true c9; clear c9
      (first | rw [c9b0] | (simp only [i64_w, i32_w]; rw [c9b0]) | skip)
      replace H := Option.bind_eq_some_iff.mp H; obtain ⟨⟨t266, t267, t268, t269⟩, A100, H⟩ := H; (try dsimp only at H); have A10 := Aside0.mk A100; clear A100; replace H := Option.bind_eq_some_iff.mp H; obtain ⟨t270, A110, H⟩ := H; (try dsimp only at H); have A11 := Aside0.mk A110; clear A110
      by_cases c12 : ([] : List Int).length < 17592186044416
      ·rw [if_pos c12] at H; have LMc12 := Aside0.mk c12; clear c12
       obtain ⟨y271, hy271⟩ : ∃ y_ : List Int, y_ = (([] : List Int) ++ [t270]) := ⟨_, rfl⟩
       replace H : (delta_Get.j1 kj2 a1 y271 t261 t267 t268 t269) = some (r1, r2) := HY hy271 H; have Ny271 := Aside0.mk hy271; clear hy271; have H' := Aside0.mk H; clear H
       go_wp2_with (first | (go_at_call 65; (with_reducible refine (num_Reader_Var.calls kj2 g265 t261 t262 t263 t264 t266 t267 t268 t269 w _ ?side1 ?side2 A10.out).mono ?_); (case side1 => exact IU73 HI265.out); (case side2 => exact BV73 HI265.out HB.out); rintro e w13 ⟨rfl, hi, hb, hk⟩; replace HB := Aside0.mk hb; replace HI265 := Aside0.mk hi; clear hb hk hi) | (go_at_call 71; (with_reducible refine (num_Zag.calls t266 t270 _ A11.out).mono ?_); rintro e w' ⟨rfl, ⟨nd, rfl⟩⟩) | ((with_reducible refine gate_builtin (b := .append) (xs := #[.tmp 24, .tmp 28]) rfl ?_); at_builtin; refine Kd.R_append (Kd.int .i64) (w0 := w) w.heap.size rfl (.tmp 24) (.tmp 28) 51 2 (.int .i64 0) 8 rfl Tryz.underlying51 info2 rfl (by decide) (by omega) (.slice none 0 0) ([] : List Int) t270 [.int .i64 t270] (fun _ => True) (fun _ => False) rfl rfl ?aP (fun _ hk => hk.elim) ?aF ?aO ?aB ?aS ?aL ?_; (case aP => exact rfl); (case aB => exact (BV73 HI265.out HB.out)); (case aF => exact (fun _ _ => trivial)); (case aO => exact ((Kd.R_nil _ _ _ _ (fun _ => True)))); (case aS => exact (below_size (BV73 HI265.out HB.out))); (case aL => have := LMc12.out; omega); intro v272 w14 ho hb hg hat; rw [← Ny271.out] at ho; replace HI265 := Aside0.mk (IsS73.grown (IU73 HI265.out) hg (by simp [Value.ownBlock])); replace HB := Aside0.mk hb; have HO273 := Aside0.mk ho; clear ho hb hg hat))
       go_meet
       case rel => exact ⟨_, (y271), (t267), (t268), (t269), H', ⟨by have := HJ2.out; first | omega | exact Nat.le_refl _⟩, ⟨RU HO273.out⟩, ⟨IU73 HI265.out⟩, ⟨BV73 HI265.out HB.out⟩⟩
      ·rw [if_neg c12] at H; exact absurd H (by simp)
     ·rw [if_neg c9] at H; have c9b0 : decide (0 < a1) = false := decide_eq_false c9; clear c9
      (first | rw [c9b0] | (simp only [i64_w, i32_w]; rw [c9b0]) | skip)
      have H' := Aside0.mk H; clear H; go_wp2; go_meet
      case rel => exact ⟨_, (([] : List Int)), (t262), (t263), (t264), H', ⟨by have := HJ2.out; first | omega | exact Nat.le_refl _⟩, ⟨by first | exact Kd.R_nil _ _ _ _ _ | exact Kd.N_nil _ _ _ _ _ | exact Kd.V_nil _ _ _ _ _ | exact Kd.Q_nil _ _ _ _ _ | exact Kd.S_nil _ _ _ _ _⟩, ⟨IU73 HI265.out⟩, ⟨BV73 HI265.out HB.out⟩⟩
    case rest =>
     clear HC7; (try clear c1); (try clear p2); (try clear c4); (try clear c4b0); (try clear c5); (try clear c6); (try clear c7); (try clear c9); (try clear c9b0); (try clear c12); (try clear p2); obtain ⟨kq, x7_6, x266001_6, x266002_6, x266003_6, HA, HJ6, HO_7, HI265, HB⟩ := hcut
     cases kq with
     | zero => exact absurd HA.out (by simp [delta_Get.j1])
     | succ kj6 =>
      have H := HA.out; clear HA; simp only [delta_Get.j1] at H; replace H := Option.bind_eq_some_iff.mp H; obtain ⟨⟨t274, t275, t276, t277, t278⟩, A150, H⟩ := H; (try dsimp only at H); have A15 := Aside0.mk A150; clear A150
      by_cases c16 : t274 = 0
      ·rw [if_pos c16] at H; have c16b0 : (t274 == 0) = true := beq_iff_eq.mpr c16; have c16b1 : (t274 != 0) = false := bne_eq_false_iff_eq.mpr c16; clear c16; have HC17 := Aside0.mk H; clear H
       go_upto_if 39 with (first | ((with_reducible refine gate_callee (f := 35) rfl ?_); refine goesL_ (some 32) rfl rfl Tryz.func35 (by kernel_rfl) rfl #[.pointer (some ⟨g265, 0, none⟩)] rfl EA ?_; (with_reducible refine (num_Reader_Err.calls g265 t261 x266001_6 x266002_6 x266003_6 t274 t275 t276 t277 t278 w _ ?side1 ?side2 A15.out).mono ?_); (case side1 => exact IU73 HI265.out); (case side2 => exact BV73 HI265.out HB.out); rintro e w18 ⟨rfl, hi, hb, hk⟩; refine ⟨_, rfl, ?_⟩; replace HO_7 := KR73 hk HI265 HO_7; replace HB := Aside0.mk hb; replace HI265 := Aside0.mk hi; clear hb hk hi))
       (try simp only [Act.put, List.setIfInBounds_toArray, List.set_cons_zero, List.set_cons_succ])
       go_cut [7] (fun v7 wc => ∃ (kq : Nat) (x7_16 : List Int) (x266001_16 : Int) (x266002_16 : Int) (x266003_16 : Int), Aside0 (delta_Get.j2 kq x7_16 t261 x266001_16 x266002_16 x266003_16 = some (r1, r2)) ∧ Aside0 (kq ≤ kj6) ∧ Aside0 (Kd.R (Kd.int .i64) 2 wc w.heap.size (fun _ => True) v7 x7_16) ∧ Aside0 (IsS73 w wc g265 t261 x266001_16 x266002_16 x266003_16) ∧ Aside0 (Below w.heap.size w wc))
       case first =>
        have H := HC17.out; clear HC17
        by_cases c19 : a1 > 1
        ·rw [if_pos c19] at H; have c19b0 : decide (1 < a1) = true := decide_eq_true c19; clear c19
         (first | rw [c19b0] | (simp only [i64_w, i32_w]; rw [c19b0]) | skip)
         replace H := Option.bind_eq_some_iff.mp H; obtain ⟨⟨t279, t282, t283, t284, t285⟩, A200, H⟩ := H; (try dsimp only at H); have A20 := Aside0.mk A200; clear A200
         by_cases c21 : t282 = 0
         ·rw [if_pos c21] at H; have c21b0 : (t282 == 0) = true := beq_iff_eq.mpr c21; have c21b1 : (t282 != 0) = false := bne_eq_false_iff_eq.mpr c21; clear c21
          by_cases c22 : x7_6.length + t279.length < 17592186044416
          ·rw [if_pos c22] at H; have LMc22 := Aside0.mk c22; clear c22
           obtain ⟨y286, hy286⟩ : ∃ y_ : List Int, y_ = (x7_6 ++ t279) := ⟨_, rfl⟩
           replace H : (delta_Get.j2 kj6 y286 t261 t283 t284 t285) = some (r1, r2) := HY hy286 H; have Ny286 := Aside0.mk hy286; clear hy286; have H' := Aside0.mk H; clear H
           go_wp2_with (first | (go_at_call 77; (with_reducible refine (delta_rest.calls kj6 g265 t261 t276 t277 t278 (wrap64 (a1 - 1)) t279 t282 t283 t284 t285 w _ ?side1 ?side2 A20.out).mono ?_); (case side1 => exact IU73 HI265.out); (case side2 => exact BV73 HI265.out HB.out); rintro e w23 ⟨v280, rfl, ho0, hi, hb, hk⟩; have HO281 := Aside0.mk (Kd.R_lower (Kd.R_new' ho0 (Kd.R_lt (RU HO_7.out))) (below_size (BV73 HI265.out HB.out))); replace HO_7 := Aside0.mk (Kd.R_mono (Kd.R_told (Kd.R_oldK (IsS73.apart (show IsS73 w _ g265 t261 t276 t277 t278 from IU73 HI265.out) (RU HO_7.out) (by decide)) hk) (Kd.R_base ho0)) (fun _ h_ => h_.1)); replace HB := Aside0.mk hb; replace HI265 := Aside0.mk hi; clear hb hk hi ho0; obtain ⟨Ao25, co25, eo25⟩ := Kd.R_slice HO281.out; subst eo25) | ((with_reducible refine gate_builtin (b := .append) (xs := #[.tmp 50, .tmp 51]) rfl ?_); at_builtin; refine Kd.R_append_rows (Kd.int .i64) (w0 := w) w.heap.size rfl (.tmp 50) (.tmp 51) 51 2 (.int .i64 0) 8 rfl Tryz.underlying51 info2 rfl (by decide) (by omega) u7 x7_6 t279 _ _ _ (fun k_ => some k_ ≠ (.slice Ao25 t279.length co25 : Value).ownBlock) (fun _ => False) rfl rfl ?aO ?aR (fun _ _ h => h) (fun _ h => h.elim) ?aF ?aB ?aS ?aL ?_; (case aR => exact CU ((Kd.R_reads' HO281.out).2.2)); (case aB => exact (BV73 HI265.out HB.out)); (case aF => exact (fun k_ hk => Kd.fresh' (Kd.R_lt (RU HO281.out)) k_ hk)); (case aO => exact (RU (Kd.R_mono HO_7.out (fun _ hk => hk.2)))); (case aS => exact (below_size (BV73 HI265.out HB.out))); (case aL => have := LMc22.out; omega); intro v287 w24 ho hb hg hat; rw [← Ny286.out] at ho; replace HI265 := Aside0.mk (IsS73.grown (IU73 HI265.out) hg (IsS73.own_ne HI265.out HO_7.out (by decide))); replace HO281 := Aside0.mk (Kd.R_after (ok := (fun _ => True)) (RU HO281.out) hg hat); replace HB := Aside0.mk hb; have HO288 := Aside0.mk ho; clear HO_7; clear ho hb hg hat))
           go_meet
           case rel => exact ⟨_, (y286), (t283), (t284), (t285), H', ⟨by have := HJ2.out; have := HJ6.out; first | omega | exact Nat.le_refl _⟩, ⟨RU (Kd.R_mono HO288.out (fun _ hk => trivial))⟩, ⟨IU73 HI265.out⟩, ⟨BV73 HI265.out HB.out⟩⟩
          ·rw [if_neg c22] at H; exact absurd H (by simp)
         ·rw [if_neg c21] at H; have c21b0 : (t282 == 0) = false := beq_eq_false_iff_ne.mpr c21; have c21b1 : (t282 != 0) = true := bne_iff_ne.mpr c21; simp only [Option.some.injEq, Prod.mk.injEq] at H; obtain ⟨rfl, rfl⟩ := H
          go_wp2_with (first | (go_at_call 77; (with_reducible refine (delta_rest.calls kj6 g265 t261 t276 t277 t278 (wrap64 (a1 - 1)) t279 t282 t283 t284 t285 w _ ?side1 ?side2 A20.out).mono ?_); (case side1 => exact IU73 HI265.out); (case side2 => exact BV73 HI265.out HB.out); rintro e w26 ⟨v280, rfl, ho0, hi, hb, hk⟩; have HO281 := Aside0.mk (Kd.R_lower (Kd.R_new' ho0 (Kd.R_lt (RU HO_7.out))) (below_size (BV73 HI265.out HB.out))); replace HO_7 := Aside0.mk (Kd.R_mono (Kd.R_told (Kd.R_oldK (IsS73.apart (show IsS73 w _ g265 t261 t276 t277 t278 from IU73 HI265.out) (RU HO_7.out) (by decide)) hk) (Kd.R_base ho0)) (fun _ h_ => h_.1)); replace HB := Aside0.mk hb; replace HI265 := Aside0.mk hi; clear hb hk hi ho0))
          go_ret2
          exact ⟨_, ER, by first | exact Kd.R_nil _ _ _ _ _ | exact Kd.N_nil _ _ _ _ _ | exact Kd.V_nil _ _ _ _ _ | exact Kd.Q_nil _ _ _ _ _ | exact Kd.S_nil _ _ _ _ _, BV73 HI265.out HB.out⟩
        ·rw [if_neg c19] at H; have c19b0 : decide (1 < a1) = false := decide_eq_false c19; clear c19
         (first | rw [c19b0] | (simp only [i64_w, i32_w]; rw [c19b0]) | skip)
         have H' := Aside0.mk H; clear H; go_wp2; go_meet
         case rel => exact ⟨_, (x7_6), (t276), (t277), (t278), H', ⟨by have := HJ2.out; have := HJ6.out; first | omega | exact Nat.le_refl _⟩, ⟨RU HO_7.out⟩, ⟨IU73 HI265.out⟩, ⟨BV73 HI265.out HB.out⟩⟩
       case rest =>
        clear HC17; (try clear c1); (try clear c2); (try clear p2); (try clear c3); (try clear c4); (try clear c4b0); (try clear c5); (try clear c6); (try clear p6); (try clear c7); (try clear c9); (try clear c9b0); (try clear c12); (try clear c16); (try clear c16b0); (try clear c16b1); (try clear c18); (try clear c19); (try clear c19b0); (try clear c21); (try clear c21b0); (try clear c21b1); (try clear c22); (try clear p2); obtain ⟨kq, x7_16, x266001_16, x266002_16, x266003_16, HA, HJ16, HO_7, HI265, HB⟩ := hcut
        cases kq with
        | zero => exact absurd HA.out (by simp [delta_Get.j2])
        | succ kj16 =>
         have H := HA.out; clear HA; simp only [delta_Get.j2] at H; replace H := Option.bind_eq_some_iff.mp H; obtain ⟨⟨t289, t290, t291, t292, t293⟩, A270, H⟩ := H; (try dsimp only at H); have A27 := Aside0.mk A270; clear A270
         by_cases c28 : t289 = 0
         ·rw [if_pos c28] at H; have c28b0 : (t289 == 0) = true := beq_iff_eq.mpr c28; have c28b1 : (t289 != 0) = false := bne_eq_false_iff_eq.mpr c28; clear c28; replace H := Option.bind_eq_some_iff.mp H; obtain ⟨t294, A290, H⟩ := H; replace H : (some (t294, 0)) = some (r1, r2) := H; have A29 := Aside0.mk A290; clear A290; simp only [Option.some.injEq, Prod.mk.injEq] at H; obtain ⟨rfl, rfl⟩ := H
          go_wp2_with (first | (go_at_call 72; (with_reducible refine (num_Reader_End.calls g265 t261 x266001_16 x266002_16 x266003_16 t289 t290 t291 t292 t293 w _ ?side1 ?side2 A27.out).mono ?_); (case side1 => exact IU73 HI265.out); (case side2 => exact BV73 HI265.out HB.out); rintro e w30 ⟨rfl, hi, hb, hk⟩; replace HO_7 := KR73 hk HI265 HO_7; replace HB := Aside0.mk hb; replace HI265 := Aside0.mk hi; clear hb hk hi; obtain ⟨Ao31, co31, eo31⟩ := Kd.R_slice HO_7.out; subst eo31) | (go_at_call 78; (with_reducible refine (delta_Sums.calls kj16 _ _ x7_16 t294 _ ?side1 ?side2 A29.out).mono ?_); (case side1 => exact CU ((Kd.R_reads' HO_7.out).2.2)); (case side2 => exact (Kd.R_reads' HO_7.out).2.1); rintro e w32 ⟨v295, rfl, ho0, hb⟩; have HO296 := Aside0.mk (Kd.R_lower (Kd.R_new' ho0 (Kd.R_lt (RU HO_7.out))) (below_size (BV73 HI265.out HB.out))); replace HO_7 := Aside0.mk (Kd.R_elder' (RU HO_7.out) (Kd.R_base ho0) hb); replace HB := Aside0.mk (below_step (BV73 HI265.out HB.out) hb); replace HI265 := Aside0.mk (IsS73.below (IU73 HI265.out) hb); clear hb ho0))
          go_ret2
          exact ⟨_, ER, RU (Kd.R_mono HO296.out (fun _ hk => trivial)), BV73 HI265.out HB.out⟩
         ·rw [if_neg c28] at H; have c28b0 : (t289 == 0) = false := beq_eq_false_iff_ne.mpr c28; have c28b1 : (t289 != 0) = true := bne_iff_ne.mpr c28; simp only [Option.some.injEq, Prod.mk.injEq] at H; obtain ⟨rfl, rfl⟩ := H
          go_wp2_with (first | (go_at_call 72; (with_reducible refine (num_Reader_End.calls g265 t261 x266001_16 x266002_16 x266003_16 t289 t290 t291 t292 t293 w _ ?side1 ?side2 A27.out).mono ?_); (case side1 => exact IU73 HI265.out); (case side2 => exact BV73 HI265.out HB.out); rintro e w33 ⟨rfl, hi, hb, hk⟩; replace HO_7 := KR73 hk HI265 HO_7; replace HB := Aside0.mk hb; replace HI265 := Aside0.mk hi; clear hb hk hi))
          go_ret2
          exact ⟨_, ER, by first | exact Kd.R_nil _ _ _ _ _ | exact Kd.N_nil _ _ _ _ _ | exact Kd.V_nil _ _ _ _ _ | exact Kd.Q_nil _ _ _ _ _ | exact Kd.S_nil _ _ _ _ _, BV73 HI265.out HB.out⟩
      ·rw [if_neg c16] at H; have c16b0 : (t274 == 0) = false := beq_eq_false_iff_ne.mpr c16; have c16b1 : (t274 != 0) = true := bne_iff_ne.mpr c16; simp only [Option.some.injEq, Prod.mk.injEq] at H; obtain ⟨rfl, rfl⟩ := H
       go_wp2_with (first | (go_at_call 35; (with_reducible refine (num_Reader_Err.calls g265 t261 x266001_6 x266002_6 x266003_6 t274 t275 t276 t277 t278 w _ ?side1 ?side2 A15.out).mono ?_); (case side1 => exact IU73 HI265.out); (case side2 => exact BV73 HI265.out HB.out); rintro e w34 ⟨rfl, hi, hb, hk⟩; replace HO_7 := KR73 hk HI265 HO_7; replace HB := Aside0.mk hb; replace HI265 := Aside0.mk hi; clear hb hk hi))
       go_ret2
       exact ⟨_, ER, by first | exact Kd.R_nil _ _ _ _ _ | exact Kd.N_nil _ _ _ _ _ | exact Kd.V_nil _ _ _ _ _ | exact Kd.Q_nil _ _ _ _ _ | exact Kd.S_nil _ _ _ _ _, BV73 HI265.out HB.out⟩

/-! ### slices_Clone_int64_int64: function 100 -/
def slices_Clone_int64_int64.f (l0 : List Int) : Option (List Int) := if l0.length * 8 ≤ 140737488355328 then some l0 else none
theorem slices_Clone_int64_int64.info : (Tryz.prog.info? 2).map (fun i => (i.zero, i.size, i.bytes)) = some (some (.int .i64 0), 1, 8) := by kernel_rfl
theorem slices_Clone_int64_int64.under : Tryz.prog.underlying 51 = some (.slice 2) := by kernel_rfl
set_option maxHeartbeats 4000000 in
theorem slices_Clone_int64_int64.calls (A0 : Option Addr) (c0 : Nat) (l0 : List Int) (r : List Int) (w : World) (hr0 : (Kd.int .i64).C w A0 l0.length l0) (hc0 : l0.length ≤ c0) (h : slices_Clone_int64_int64.f l0 = some r) :
  Calls Tryz.prog 100 #[.slice A0 l0.length c0] w fun e w' => ∃ v0_ : Value, e = .returned v0_ ∧ (Kd.int .i64).R 2 w' w.heap.size (fun _ => True) v0_ r ∧ Below w.heap.size w w' := by
 unfold slices_Clone_int64_int64.f at h
 by_cases hl : l0.length * 8 ≤ 140737488355328
 ·rw [if_pos hl] at h; obtain rfl := Option.some.inj h
  cases A0 with
  | none =>
   have h0 : l0 = [] := by
    rcases l0 with _ | ⟨x, l⟩
    ·rfl
    ·obtain ⟨ad, e, _⟩ := hr0.2.2 (by simp)
     cases e
   subst h0
   have e1 : ∀ w, (binOp BinOp.eql 51 (.slice none ([] : List Int).length c0) (.slice none 0 0)).run Tryz.prog w = .ok (.bool true) w := fun w => by kernel_rfl
   simp only [List.length_nil] at e1 ⊢; go_enter Tryz.func100, Tryz.ntmps100; go_wp2
   go_ret
   exact ⟨_, rfl, Kd.R_nil _ _ _ _ _, Below.refl _ _⟩
  | some ad =>
   have e1 : ∀ w, (binOp BinOp.eql 51 (.slice (some ad) l0.length c0) (.slice none 0 0)).run Tryz.prog w = .ok (.bool false) w := fun w => by kernel_rfl
   have hB1 : Below w.heap.size w (w.alloc (.cells #[] 2)) := below_alloc (Below.refl _ _) _
   have hR1 : (Kd.int .i64).R 2 (w.alloc (.cells #[] 2)) w.heap.size (fun _ => True) (.slice (some ⟨w.heap.size, 0, none⟩) 0 0) [] :=
    Kd.R_of_own (h1 := fun _ => rfl) (by simpa [encs] using World.ownsRow_lit (base := w.heap.size) (e := 2) (size := 1) w #[] 0 (Nat.le_refl _) (by decide) (by simp)) (fun _ _ => trivial)
   have hC1 := Kd.C_below hr0 hB1; go_enter Tryz.func100, Tryz.ntmps100
   go_wp2_with ((with_reducible refine gate_builtin (b := .append) (xs := #[.tmp 5, .tmp 6]) rfl ?_); at_builtin; refine Kd.R_append_rows (Kd.int .i64) (w0 := w) w.heap.size rfl (.tmp 5) (.tmp 6) 51 2 (.int .i64 0) 8 rfl slices_Clone_int64_int64.under slices_Clone_int64_int64.info rfl (by decide) (by omega) _ [] l0 _ _ _ (fun _ => True) (fun _ => False) rfl rfl hR1 hC1 (fun _ _ h => h) (fun _ h => h.elim) (fun _ _ => trivial) hB1 (by simp) (by simpa using hl) ?_; intro v1 w1 ho hb hg hat)
   go_ret
   exact ⟨_, rfl, by simpa using ho, hb⟩
 ·rw [if_neg hl] at h; cases h

/-! ### dict_List: function 79 -/
def dict_List.f (l0 : List Int) : Option (List Int) := if l0.length * 8 ≤ 140737488355328 then some (Go.Lib.compact (l0.mergeSort fun x y => decide (x ≤ y))) else none
theorem dict_List.grow_below (w : World) (os : Array Obj) : Below w.heap.size w (Go.Sort.grow w os) := ⟨rfl, rfl, rfl, by simp, fun k hk => Go.Sort.heap_grow_old w os hk⟩
/-- What the three calls leave, outside the walk. -/
theorem dict_List.left {w w1 : World} {g cap nn q : Nat} {os : Array Obj} {ss : List Int} (hR : (Kd.int .i64).R 2 w1 w.heap.size (fun _ => True) (.slice (some ⟨g, 0, none⟩) ss.length cap) ss) (hbel : Below w.heap.size w w1) (hbg : w.heap.size ≤ g) (hgl : g < w1.heap.size) :
  (Kd.int .i64).R 2 (Go.Sort.putRow (Value.int .i64) (Go.Sort.ahead (Go.Sort.grow (Go.Sort.putRow (Value.int .i64) (Go.Sort.ahead w1 nn) g 0 (ss.mergeSort fun x y => decide (x ≤ y)).toArray) os) q) g 0 (Go.Lib.compact (ss.mergeSort fun x y => decide (x ≤ y)) ++ List.replicate (ss.length - (Go.Lib.compact (ss.mergeSort fun x y => decide (x ≤ y))).length) 0).toArray) w.heap.size (fun _ => True) (.slice (some ⟨g, 0, none⟩) (Go.Lib.compact (ss.mergeSort fun x y => decide (x ≤ y))).length cap) (Go.Lib.compact (ss.mergeSort fun x y => decide (x ≤ y))) ∧
  Below w.heap.size w (Go.Sort.putRow (Value.int .i64) (Go.Sort.ahead (Go.Sort.grow (Go.Sort.putRow (Value.int .i64) (Go.Sort.ahead w1 nn) g 0 (ss.mergeSort fun x y => decide (x ≤ y)).toArray) os) q) g 0 (Go.Lib.compact (ss.mergeSort fun x y => decide (x ≤ y)) ++ List.replicate (ss.length - (Go.Lib.compact (ss.mergeSort fun x y => decide (x ≤ y))).length) 0).toArray) := by
 have hl2 : (ss.mergeSort fun x y => decide (x ≤ y)).length = ss.length := List.length_mergeSort ss; have hle := Go.Lib.compact_length_le (ss.mergeSort fun x y => decide (x ≤ y)); have hown : w1.ownsRow w.heap.size 2 1 (.slice (some ⟨g, 0, none⟩) ss.length cap) ss.length (ss.map (Value.int .i64)) := Kd.own_of_R hR; generalize ss.mergeSort (fun x y => decide (x ≤ y)) = ts at *; have h1 := Go.Lib.ownsRow_putRow (q := nn) (k := ss.length) (ys := ts) hown hl2 (Nat.le_refl _); rw [← hl2, List.take_length] at h1; have hb1 := Go.Lib.below_putRow (enc := Value.int .i64) (q := nn) (d := ts.toArray) hbel hbg; have h2 := pw_own_below h1 (dict_List.grow_below _ os); have hb2 := hb1.trans ((dict_List.grow_below (Go.Sort.putRow (Value.int .i64) (Go.Sort.ahead w1 nn) g 0 ts.toArray) os).mono (by simpa using hbel.size)); rw [hl2] at h2 hle; have h3 := Go.Lib.ownsRow_putRow (q := q) (k := (Go.Lib.compact ts).length) (ys := Go.Lib.compact ts ++ List.replicate (ss.length - (Go.Lib.compact ts).length) 0) h2 (by simp; omega) hle; rw [List.take_left] at h3; exact ⟨Kd.R_of_own (h1 := fun _ => rfl) h3 (fun _ _ => trivial), Go.Lib.below_putRow hb2 hbg⟩
theorem dict_List.compact_nil (w : World) : Calls Tryz.prog 102 #[.slice none 0 0] w fun e w' => e = .returned (.slice none 0 0) ∧ w' = w := by
 go_enter Tryz.func102, Tryz.ntmps102; go_wp2
 go_ret
 exact ⟨rfl, rfl⟩
set_option maxHeartbeats 4000000 in
theorem dict_List.calls (A0 : Option Addr) (c0 : Nat) (l0 : List Int) (r : List Int) (w : World) (hr0 : (Kd.int .i64).C w A0 l0.length l0) (hc0 : l0.length ≤ c0) (h : dict_List.f l0 = some r) :
  Calls Tryz.prog 79 #[.slice A0 l0.length c0] w fun e w' => ∃ v0_ : Value, e = .returned v0_ ∧ (Kd.int .i64).R 2 w' w.heap.size (fun _ => True) v0_ r ∧ Below w.heap.size w w' := by
 unfold dict_List.f at h
 by_cases hl : l0.length * 8 ≤ 140737488355328
 case neg => rw [if_neg hl] at h; cases h
 rw [if_pos hl] at h; obtain rfl := Option.some.inj h; have hcl := slices_Clone_int64_int64.calls A0 c0 l0 l0 w hr0 hc0 (by unfold slices_Clone_int64_int64.f; rw [if_pos hl]); clear hr0 h; go_enter Tryz.func79, Tryz.ntmps79
 go_wp2_with (go_at_call 100; refine hcl.mono ?_; rintro e w1 ⟨v1, rfl, hR, hbel⟩)
 have hown : w1.ownsRow w.heap.size 2 1 v1 l0.length (l0.map (Value.int .i64)) := Kd.own_of_R hR
 by_cases hv : v1 = .slice none 0 0
 ·subst hv
  have h0 : l0 = [] := by
   rcases hown.2 with ⟨_, h0⟩ | ⟨g, cap, cur, e0, _⟩
   ·exact List.eq_nil_of_length_eq_zero h0
   ·cases e0
  subst h0
  go_wp2_with (first | (go_at_call 101; refine (Go.Proofs.Tryz.slices_Sort_int_none none 0 w1).mono ?_; rintro e w2 ⟨rfl, rfl⟩) | (go_at_call 102; refine (dict_List.compact_nil w2).mono ?_; rintro e w3 ⟨rfl, rfl⟩))
  go_ret
  exact ⟨_, rfl, by rw [show Go.Lib.compact (([] : List Int).mergeSort fun x y => decide (x ≤ y)) = [] from by simp [Go.Lib.compact, Go.Lib.compactUpTo]]; exact hR, hbel⟩
 ·obtain ⟨g, cap, rfl, hbg, hgl, hncap, hcm, _, hH⟩ := Go.Lib.holds_of_ownsRow hown hv
  have hlen : l0.length < 4611686018427387904 := by omega
  have hsort := Go.Proofs.Tryz.slices_Sort_int g 0 cap l0 w1 hH hgl hlen
  have hleft : ∀ nn q os, _ := fun nn q os => dict_List.left (nn := nn) (q := q) (os := os) hR hbel hbg hgl
  have hl2 : (l0.mergeSort fun x y => decide (x ≤ y)).length = l0.length := List.length_mergeSort l0
  obtain ⟨ts, hts⟩ : ∃ ts, ts = l0.mergeSort fun x y => decide (x ≤ y) := ⟨_, rfl⟩
  rw [← hts] at hsort hl2; rw [← hts] at hleft; have HT := Aside0.mk hts; clear hts
  have hcomp : ∀ nn os, Calls Tryz.prog 102 #[.slice (some ⟨g, 0, none⟩) l0.length cap] (Go.Sort.grow (Go.Sort.putRow (Value.int .i64) (Go.Sort.ahead w1 nn) g 0 ts.toArray) os) fun e w' => e = .returned (.slice (some ⟨g, 0, none⟩) (Go.Lib.compact ts).length cap) ∧ ∃ q, w' = Go.Sort.putRow (Value.int .i64) (Go.Sort.ahead (Go.Sort.grow (Go.Sort.putRow (Value.int .i64) (Go.Sort.ahead w1 nn) g 0 ts.toArray) os) q) g 0 (Go.Lib.compact ts ++ List.replicate (l0.length - (Go.Lib.compact ts).length) 0).toArray := by
   intro nn os
   have hH2 : Go.Sort.Holds (Value.int .i64) (Go.Sort.grow (Go.Sort.putRow (Value.int .i64) (Go.Sort.ahead w1 nn) g 0 ts.toArray) os) g 0 ts.toArray :=
    Go.Sort.holds_grow _ _ os g 0 _ (by simpa using hgl) (Go.Sort.holds_putRow _ _ g 0 _ _ (Go.Sort.holds_ahead _ w1 nn g 0 _ hH) (by simp [hl2]))
   have := Go.Proofs.Tryz.slices_Compact_f102 (Value.int .i64) (fun _ => rfl) (EqlAt.intD _ _ .i64) (NeqAt.intD _ _ .i64) 0 (fun w => by kernel_rfl) g 0 cap ts.toArray _ hH2 (by simp; omega) (by simp; omega); rw [List.size_toArray, hl2] at this
   have e1 : Go.Lib.compactUpTo ts.toArray l0.length = Go.Lib.compact ts := by unfold Go.Lib.compact; rw [hl2]
   rw [e1] at this; exact this
  have HL := Aside0.mk hleft; clear hleft hH hR hown hbel hcl
  go_wp2_with (first | (go_at_call 101; refine hsort.mono ?_; rintro e w2 ⟨rfl, nn, os, rfl⟩) | (go_at_call 102; refine (hcomp nn os).mono ?_; rintro e w3 ⟨rfl, q, rfl⟩))
  go_ret
  exact ⟨_, rfl, by rw [← HT.out]; exact (HL.out nn q os).1, (HL.out nn q os).2⟩

/-! ### bits_Len: function 67 -/
def bits_Len.f (a0 : Int) : Option (Int) := if 0 ≤ a0 then (if a0 ≤ 18446744073709551615 then some (Lib.bitLen a0.toNat : Int) else none) else none
theorem bits_Len.calls (a0 : Int) (r : Int) (w : World) (h : bits_Len.f a0 = some r) :
  Calls Tryz.prog 67 #[.int .u64 a0] w fun e w' => e = .returned (.int .i64 r) ∧ Drawn0 w w' := by
 unfold bits_Len.f at h
 by_cases h0 : 0 ≤ a0
 ·rw [if_pos h0] at h
  by_cases h1 : a0 ≤ 18446744073709551615
  ·rw [if_pos h1] at h; obtain rfl := Option.some.inj h
   exact (Go.Proofs.Tryz.bits_Len a0 w h0 h1).mono fun e w' ⟨he, hw⟩ => ⟨he, by rw [hw]; exact Drawn0.refl _⟩
  ·rw [if_neg h1] at h; cases h
 ·rw [if_neg h0] at h; cases h

/-! ### dict_width: function 80 -/
def dict_width.f (a0 : Int) : Option (Int) := (bits_Len.f (IntKind.u64.wrap (mx (wrap64 (a0 - 1)) 0))).bind fun t297 => (some t297)
set_option maxHeartbeats 8000000 in
set_option maxRecDepth 100000 in
theorem dict_width.calls (a0 : Int) (r : Int) (w : World) (h : dict_width.f a0 = some r) :
  Calls Tryz.prog 80 #[.int .i64 a0] w fun e w' => e = .returned (.int .i64 r) ∧ Below w.heap.size w w' := by
 have HB := Aside0.mk (Below.refl w.heap.size w); have H : ((bits_Len.f (IntKind.u64.wrap (mx (wrap64 (a0 - 1)) 0))).bind fun t297 => (some t297)) = some r := h; clear h
 obtain ⟨ji2, hji2⟩ : ∃ j_ : Int, (mx (wrap64 (a0 - 1)) 0) = j_ := ⟨_, rfl⟩
 replace H : ((bits_Len.f (IntKind.u64.wrap (ji2))).bind fun t297 => (some t297)) = some r := by first | (rw [hji2] at H; exact H) | (simp only [hji2] at H ⊢; exact H)
 (try (have hji2l : 0 ≤ ji2 := by (rw [← hji2]; unfold mx; (repeat' split) <;> omega)))
 (try (have hji2m : 0 ≤ ji2 := by omega))
 have hji2_ : (if (wrap64 (a0 - 1)) < 0 then 0 else (wrap64 (a0 - 1))) = ji2 := hji2; replace H := Option.bind_eq_some_iff.mp H; obtain ⟨t297, A30, H⟩ := H; replace H : (some t297) = some r := H; have A3 := Aside0.mk A30; clear A30; obtain rfl := Option.some.inj H; go_enter Tryz.func80, Tryz.ntmps80
 go_wp2_with (first | ((with_reducible refine gate_callee (f := 67) rfl ?_); refine goesL_ (some 7) rfl rfl Tryz.func67 (by kernel_rfl) rfl #[.int .u64 (IntKind.u64.wrap (ji2))] rfl (by (try simp only [List.map_toArray, List.map_cons, List.map_nil]); first | done | (simp only [hji2]; rfl) | rfl | (simp only [List.length_drop, List.length_take]; rfl)) ?_; (with_reducible refine (bits_Len.calls (IntKind.u64.wrap (ji2)) t297 _ A3.out).mono ?_); rintro e w' ⟨rfl, ⟨nd, rfl⟩⟩; refine ⟨_, rfl, ?_⟩))
 go_ret
 exact ⟨by first | rfl | (simp [errW_none, errW_some] <;> rfl) | (simp only [← hji2]; first | rfl | (simp [errW_none, errW_some] <;> rfl)) | (simp [*, errW_none, errW_some] <;> rfl), BU HB.out⟩

end Go.Proofs.YtehbkhddbdgbcaaGreatDoor.PChunkBack
