/- WRITTEN BY A PROGRAM of this session (wip/tool: a turned copy of the printer), out of the translation: Lean functions with the answers of the Go functions, and the proofs that the Go code comes to them. -/
import Derived.Test.YtefcchpjbojdkaaGreatDoorPChunkPutsx0
import Derived.Test.YtefcchpjbojdkaaGreatDoorPChunkPutsx16
import Derived.Test.YtefcchpjbojdkaaGreatDoorPChunkPutsx17
import Derived.Test.YtefcchpjbojdkaaGreatDoorPChunkPutsx18
namespace Go.Proofs.YtefcchpjbojdkaaGreatDoor.PChunkPuts
open Go.RowKit Go.Proofs.YtefcchpjbojdkaaGreatDoorW.PrintWords Go.Proofs.YtefcchpjbojdkaaGreatDoorW.PrintLast Go.Proofs.YtefcchpjbojdkaaGreatDoorW.PrintMore
attribute [local go_sem] max2_int min2_int max_two min_two max_three min_three max_four min_four   -- for this text's walks alone
set_option linter.unusedVariables false
set_option linter.unusedSimpArgs false

/-! ### estreatref10_Put: function 28 -/
def estreatref10_Put.l0 : Nat → List Int → List Int → List Int → Int → Option (List Int)
 | 0, _, _, _, _ => none
 | k + 1, x3, x4, x5, x6 => if x6 < (x3.length : Int) then (if 0 ≤ x6 then ((estreatref01_Zig.f (rd x3 x6)).bind fun t685 => (if x5.length < 17592186044416 then (estreatref10_Put.l0 k x3 x4 (x5 ++ [t685]) (wrap64 (x6 + 1))) else (none))) else (none)) else ((estreatref02_Width.f k x5).bind fun t689 => ((estreatref02_Pack.f k x5 t689).bind fun bt690 => (if x4.length < 140737488355328 then ((some (x4 ++ [(t689) % 256] : List Int)).bind fun y694 => (if y694.length + bt690.1.length < 140737488355328 then (some (y694 ++ bt690.1)) else (none))) else (none))))
def estreatref10_Put.f (k : Nat) (l0 : List Int) : Option (List Int) := (estreatref10_Steps.f k l0).bind fun t676 => (if (t676.length : Int) = 0 then (some ([] : List Int)) else (if 0 < (t676.length : Int) then ((estreatref01_Zig.f (rd t676 0)).bind fun t680 => ((estreatref01_Var.f k t680).bind fun t681 => (if (t676.length : Int) = 1 then (some t681) else (estreatref10_Put.l0 k t676 t681 ([] : List Int) 1)))) else (none)))
set_option maxHeartbeats 8000000 in
set_option maxRecDepth 100000 in
theorem estreatref10_Put.calls (k : Nat) (A0 : Option Addr) (c0 : Nat) (l0 : List Int) (r : List Int) (w : World) (hr0 : Kd.C (Kd.int .i64) w A0 l0.length l0) (hc0 : l0.length ≤ c0) (h : estreatref10_Put.f k l0 = some r) :
  Calls Tryz.prog 28 #[.slice A0 l0.length c0] w fun e w' => ∃ v0_ : Value, e = .returned (v0_) ∧ Kd.R (Kd.int .u8) 5 w' w.heap.size (fun _ => True) v0_ r ∧ Below w.heap.size w w' := by
 have HR0 := Aside0.mk hr0
 have HC0 := Aside0.mk hc0
 clear hr0 hc0
 have HB := Aside0.mk (Below.refl w.heap.size w)
 have H : ((estreatref10_Steps.f k l0).bind fun t676 => (if (t676.length : Int) = 0 then (some ([] : List Int)) else (if 0 < (t676.length : Int) then ((estreatref01_Zig.f (rd t676 0)).bind fun t680 => ((estreatref01_Var.f k t680).bind fun t681 => (if (t676.length : Int) = 1 then (some t681) else (estreatref10_Put.l0 k t676 t681 ([] : List Int) 1)))) else (none)))) = some r := h
 clear h
 replace H := Option.bind_eq_some_iff.mp H
 obtain ⟨t676, A20, H⟩ := H
 replace H : (if (t676.length : Int) = 0 then (some ([] : List Int)) else (if 0 < (t676.length : Int) then ((estreatref01_Zig.f (rd t676 0)).bind fun t680 => ((estreatref01_Var.f k t680).bind fun t681 => (if (t676.length : Int) = 1 then (some t681) else (estreatref10_Put.l0 k t676 t681 ([] : List Int) 1)))) else (none))) = some r := H
 have A2 := Aside0.mk A20
 clear A20
 by_cases c3 : (t676.length : Int) = 0
 ·rw [if_pos c3] at H
  have c3b0 : ((t676.length : Int) == 0) = true := beq_iff_eq.mpr c3
  have c3b1 : ((t676.length : Int) != 0) = false := bne_eq_false_iff_eq.mpr c3
  clear c3
  obtain rfl := Option.some.inj H
  go_enter Tryz.func28, Tryz.ntmps28
  go_wp2_with (first | ((with_reducible refine gate_callee (f := 57) rfl ?_); refine goesL_ (some 11) rfl rfl Tryz.func57 (by kernel_rfl) rfl #[.slice A0 l0.length c0] rfl EA ?_; (with_reducible refine (estreatref10_Steps.calls k _ _ l0 t676 _ ?side1 ?side2 A2.out).mono ?_); (case side1 => exact CU HR0.out); (case side2 => exact HC0.out); rintro e w4 ⟨v677, rfl, ho0, hb⟩; refine ⟨_, rfl, ?_⟩; have n0_ := Aside0.mk (Kd.R_lower ho0 (below_size (BU HB.out))); have n1_ := Aside0.mk (below_step (BU HB.out) hb); clear HB; have HO678 := n0_; have HB := n1_; clear n0_ n1_; (try clear hb); (try clear hb2); (try clear hk); (try clear hi); (try clear ho0); obtain ⟨Ao5, co5, eo5⟩ := Kd.R_slice HO678.out; subst eo5))
  go_ret
  exact ⟨_, by first | rfl | (simp [errW_none, errW_some] <;> rfl) | (simp [*, errW_none, errW_some] <;> rfl), by first | exact Kd.R_nil _ _ _ _ _ | exact Kd.N_nil _ _ _ _ _ | exact Kd.V_nil _ _ _ _ _ | exact Kd.Q_nil _ _ _ _ _ | exact Kd.S_nil _ _ _ _ _, BU HB.out⟩
 ·rw [if_neg c3] at H
  have c3b0 : ((t676.length : Int) == 0) = false := beq_eq_false_iff_ne.mpr c3
  have c3b1 : ((t676.length : Int) != 0) = true := bne_iff_ne.mpr c3
  have c3b2 : ¬ (t676 = []) := fun h_ => c3 (by rw [h_]; rfl)
  by_cases c6 : 0 < (t676.length : Int)
  ·rw [if_pos c6] at H
   have c6b0 : decide (0 < (t676.length : Int)) = true := decide_eq_true c6
   have c6b1 : decide (0 < t676.length) = true := decide_eq_true (by omega)
   clear c6
   replace H := Option.bind_eq_some_iff.mp H
   obtain ⟨t680, A70, H⟩ := H
   replace H : ((estreatref01_Var.f k t680).bind fun t681 => (if (t676.length : Int) = 1 then (some t681) else (estreatref10_Put.l0 k t676 t681 ([] : List Int) 1))) = some r := H
   have A7 := Aside0.mk A70
   clear A70
   replace H := Option.bind_eq_some_iff.mp H
   obtain ⟨t681, A80, H⟩ := H
   replace H : (if (t676.length : Int) = 1 then (some t681) else (estreatref10_Put.l0 k t676 t681 ([] : List Int) 1)) = some r := H
   have A8 := Aside0.mk A80
   clear A80
   by_cases c9 : (t676.length : Int) = 1
   ·rw [if_pos c9] at H
    have c9b0 : ((t676.length : Int) == 1) = true := beq_iff_eq.mpr c9
    have c9b1 : ((t676.length : Int) != 1) = false := bne_eq_false_iff_eq.mpr c9
    clear c9
    obtain rfl := Option.some.inj H
    go_enter Tryz.func28, Tryz.ntmps28
    go_wp2_with (first | ((with_reducible refine gate_callee (f := 57) rfl ?_); refine goesL_ (some 11) rfl rfl Tryz.func57 (by kernel_rfl) rfl #[.slice A0 l0.length c0] rfl EA ?_; (with_reducible refine (estreatref10_Steps.calls k _ _ l0 t676 _ ?side1 ?side2 A2.out).mono ?_); (case side1 => exact CU HR0.out); (case side2 => exact HC0.out); rintro e w10 ⟨v677, rfl, ho0, hb⟩; refine ⟨_, rfl, ?_⟩; have n0_ := Aside0.mk (Kd.R_lower ho0 (below_size (BU HB.out))); have n1_ := Aside0.mk (below_step (BU HB.out) hb); clear HB; have HO678 := n0_; have HB := n1_; clear n0_ n1_; (try clear hb); (try clear hb2); (try clear hk); (try clear hi); (try clear ho0); obtain ⟨Ao11, co11, eo11⟩ := Kd.R_slice HO678.out; subst eo11; have p679 : 0 ≤ (0 : Int) := (by omega); have q679 : 0 < (t676.length : Int) := OD; obtain ⟨ad679, e679, hx679_0⟩ := Kd.at_int (Kd.R_reads' HO678.out).2.2 0 p679 q679; cases e679; have qi679 : (0 < t676.length) = True := eq_true (by omega); (try rw [show ((0 : Int)).toNat = 0 from rfl] at hx679_0); (try rw [Addr.add_zero'] at hx679_0); replace p679 := eq_true p679; replace q679 := eq_true q679) | ((with_reducible refine gate_callee (f := 55) rfl ?_); refine goesL_ (some 18) rfl rfl Tryz.func55 (by kernel_rfl) rfl #[.int .i64 (rd t676 0)] rfl EA ?_; (with_reducible refine (estreatref01_Zig.calls (rd t676 0) t680 _ A7.out).mono ?_); rintro e w' ⟨rfl, ⟨nd, rfl⟩⟩; refine ⟨_, rfl, ?_⟩) | ((with_reducible refine gate_callee (f := 54) rfl ?_); refine goesL_ (some 19) rfl rfl Tryz.func54 (by kernel_rfl) rfl #[.int .u64 t680] rfl EA ?_; (with_reducible refine (estreatref01_Var.calls k t680 t681 _ A8.out).mono ?_); rintro e w12 ⟨v682, rfl, ho0, hb⟩; refine ⟨_, rfl, ?_⟩; have n0_ := Aside0.mk (Kd.R_below (RU HO678.out) hb); have n1_ := Aside0.mk (Kd.R_lower ho0 (below_size (BU HB.out))); have n2_ := Aside0.mk (below_step (BU HB.out) hb); clear HO678 HB; have HO678 := n0_; have HO683 := n1_; have HB := n2_; clear n0_ n1_ n2_; (try clear hb); (try clear hb2); (try clear hk); (try clear hi); (try clear ho0)))
    go_ret
    exact ⟨_, by first | rfl | (simp [errW_none, errW_some] <;> rfl) | (simp [*, errW_none, errW_some] <;> rfl), RU HO683.out, BU HB.out⟩
   ·rw [if_neg c9] at H
    have c9b0 : ((t676.length : Int) == 1) = false := beq_eq_false_iff_ne.mpr c9
    have c9b1 : ((t676.length : Int) != 1) = true := bne_iff_ne.mpr c9
    have H' := Aside0.mk H
    clear H
    go_enter Tryz.func28, Tryz.ntmps28
    go_wp2_with (first | ((with_reducible refine gate_callee (f := 57) rfl ?_); refine goesL_ (some 11) rfl rfl Tryz.func57 (by kernel_rfl) rfl #[.slice A0 l0.length c0] rfl EA ?_; (with_reducible refine (estreatref10_Steps.calls k _ _ l0 t676 _ ?side1 ?side2 A2.out).mono ?_); (case side1 => exact CU HR0.out); (case side2 => exact HC0.out); rintro e w13 ⟨v677, rfl, ho0, hb⟩; refine ⟨_, rfl, ?_⟩; have n0_ := Aside0.mk (Kd.R_lower ho0 (below_size (BU HB.out))); have n1_ := Aside0.mk (below_step (BU HB.out) hb); clear HB; have HO678 := n0_; have HB := n1_; clear n0_ n1_; (try clear hb); (try clear hb2); (try clear hk); (try clear hi); (try clear ho0); obtain ⟨Ao14, co14, eo14⟩ := Kd.R_slice HO678.out; subst eo14; have p679 : 0 ≤ (0 : Int) := (by omega); have q679 : 0 < (t676.length : Int) := OD; obtain ⟨ad679, e679, hx679_0⟩ := Kd.at_int (Kd.R_reads' HO678.out).2.2 0 p679 q679; cases e679; have qi679 : (0 < t676.length) = True := eq_true (by omega); (try rw [show ((0 : Int)).toNat = 0 from rfl] at hx679_0); (try rw [Addr.add_zero'] at hx679_0); replace p679 := eq_true p679; replace q679 := eq_true q679) | ((with_reducible refine gate_callee (f := 55) rfl ?_); refine goesL_ (some 18) rfl rfl Tryz.func55 (by kernel_rfl) rfl #[.int .i64 (rd t676 0)] rfl EA ?_; (with_reducible refine (estreatref01_Zig.calls (rd t676 0) t680 _ A7.out).mono ?_); rintro e w' ⟨rfl, ⟨nd, rfl⟩⟩; refine ⟨_, rfl, ?_⟩) | ((with_reducible refine gate_callee (f := 54) rfl ?_); refine goesL_ (some 19) rfl rfl Tryz.func54 (by kernel_rfl) rfl #[.int .u64 t680] rfl EA ?_; (with_reducible refine (estreatref01_Var.calls k t680 t681 _ A8.out).mono ?_); rintro e w15 ⟨v682, rfl, ho0, hb⟩; refine ⟨_, rfl, ?_⟩; have n0_ := Aside0.mk (Kd.R_below (RU HO678.out) hb); have n1_ := Aside0.mk (Kd.R_lower ho0 (below_size (BU HB.out))); have n2_ := Aside0.mk (below_step (BU HB.out) hb); clear HO678 HB; have HO678 := n0_; have HO683 := n1_; have HB := n2_; clear n0_ n1_ n2_; (try clear hb); (try clear hb2); (try clear hk); (try clear hi); (try clear ho0)))
    go_loopg [5, 6] k (fun kq v5 v6 w' => ∃ (x5_1 : List Int) (x6_1 : Int), v6 = .int .i64 x6_1 ∧ Aside0 (estreatref10_Put.l0 kq t676 t681 x5_1 x6_1 = some r) ∧ Aside0 (kq ≤ k) ∧ Aside0 (Kd.R (Kd.int .i64) 2 w' w.heap.size (fun _ => True) (.slice (some ad679) t676.length co14) t676) ∧ Aside0 (Kd.R (Kd.int .u8) 5 w' w.heap.size (fun _ => True) v682 t681) ∧ Aside0 (Kd.R (Kd.int .u64) 66 w' w.heap.size (fun _ => True) v5 x5_1) ∧ Aside0 (Below w.heap.size w w'))
    case atStart => exact ⟨(([] : List Int)), (1), EB, H', ⟨Nat.le_refl _⟩, ⟨RU HO678.out⟩, ⟨RU HO683.out⟩, ⟨by first | exact Kd.R_nil _ _ _ _ _ | exact Kd.N_nil _ _ _ _ _ | exact Kd.V_nil _ _ _ _ _ | exact Kd.Q_nil _ _ _ _ _ | exact Kd.S_nil _ _ _ _ _⟩, ⟨BU HB.out⟩⟩
    case round =>
     clear H'
     try clear c2
     try clear p2
     try clear c3
     try clear c3b0
     try clear c3b1
     try clear c3b2
     try clear c5
     try clear c6
     try clear c6b0
     try clear c6b1
     try clear p6
     try clear q6
     try clear hx6
     try clear qi6
     try clear c9
     try clear c9b0
     try clear c9b1
     try clear hx679_0
     try clear p679
     try clear q679
     obtain ⟨x5_1, x6_1, rfl, HA, HK1, HO_3, HO_4, HO_5, HB⟩ := hrel
     cases gk with
     | zero => exact absurd HA.out (by simp [estreatref10_Put.l0])
     | succ k1 =>
      have H := HA.out
      clear HA
      simp only [estreatref10_Put.l0] at H
      by_cases c16 : x6_1 < (t676.length : Int)
      ·rw [if_pos c16] at H
       have c16b0 : decide (x6_1 < (t676.length : Int)) = true := decide_eq_true c16
       clear c16
       by_cases c17 : 0 ≤ x6_1
       ·rw [if_pos c17] at H
        have c17b0 : decide (0 ≤ x6_1) = true := decide_eq_true c17
        clear c17
        replace H := Option.bind_eq_some_iff.mp H
        obtain ⟨t685, A180, H⟩ := H
        replace H : (if x5_1.length < 17592186044416 then (estreatref10_Put.l0 k1 t676 t681 (x5_1 ++ [t685]) (wrap64 (x6_1 + 1))) else (none)) = some r := H
        have A18 := Aside0.mk A180
        clear A180
        by_cases c19 : x5_1.length < 17592186044416
        ·rw [if_pos c19] at H
         have LMc19 := Aside0.mk c19
         clear c19
         obtain ⟨y686, hy686⟩ : ∃ y_ : List Int, y_ = (x5_1 ++ [t685]) := ⟨_, rfl⟩
         replace H : (estreatref10_Put.l0 k1 t676 t681 y686 (wrap64 (x6_1 + 1))) = some r := by first | (rw [hy686]; with_reducible exact H) | (have H2_ := (Option.bind_some _ _).symm.trans H; rw [hy686]; with_reducible exact H2_) | (have H2_ := (Option.bind_some _ _).symm.trans H; with_reducible exact H2_) | with_reducible exact H | (rw [hy686]; exact H) | exact H
         have Ny686 := Aside0.mk hy686
         clear hy686
         have H' := Aside0.mk H
         clear H
         have p684 : 0 ≤ (x6_1 : Int) := OD
         have q684 : x6_1 < (t676.length : Int) := OD
         obtain ⟨ad684, e684, hx684_0⟩ := Kd.at_int (Kd.R_reads' HO_3.out).2.2 x6_1 p684 q684
         obtain rfl : ad679 = ad684 := (by injection e684)
         replace p684 := eq_true p684
         replace q684 := eq_true q684
         go_wp2_with (first | ((with_reducible refine gate_callee (f := 55) rfl ?_); refine goesL_ (some 35) rfl rfl Tryz.func55 (by kernel_rfl) rfl #[.int .i64 (rd t676 x6_1)] rfl EA ?_; (with_reducible refine (estreatref01_Zig.calls (rd t676 x6_1) t685 _ A18.out).mono ?_); rintro e w' ⟨rfl, ⟨nd, rfl⟩⟩; refine ⟨_, rfl, ?_⟩) | ((with_reducible refine gate_builtin (b := .append) (xs := #[.tmp 30, .tmp 36]) rfl ?_); at_builtin; refine Kd.R_append (Kd.int .u64) (w0 := w) w.heap.size rfl (.tmp 30) (.tmp 36) 68 66 (.int .u64 0) 8 rfl Tryz.underlying68 info66 rfl (by decide) (by omega) u5 x5_1 t685 [.int .u64 t685] (fun _ => True) (fun _ => False) rfl rfl ?aP (fun _ hk => hk.elim) ?aF ?aO ?aB ?aS ?aL ?_; (case aP => exact rfl); (case aB => exact (BU HB.out)); (case aF => exact (fun _ _ => trivial)); (case aO => exact (RU HO_5.out)); (case aS => exact (below_size (BU HB.out))); (case aL => have := LMc19.out; omega); intro v687 w20 ho hb hg hat; rw [← Ny686.out] at ho; have n0_ := Aside0.mk (Kd.R_over' (RU HO_3.out) (Kd.R_typed (RU HO_5.out)) (by decide) hg); have n1_ := Aside0.mk (Kd.R_over' (RU HO_4.out) (Kd.R_typed (RU HO_5.out)) (by decide) hg); have n2_ := Aside0.mk (hb); have n3_ := Aside0.mk (ho); clear HO_3 HO_4 HB HO_5; have HO_3 := n0_; have HO_4 := n1_; have HB := n2_; have HO688 := n3_; clear n0_ n1_ n2_ n3_; clear ho hb hg hat))
         go_roundg k1
         case measure => have := HK1.out; omega
         case rel => exact ⟨(y686), (wrap64 (x6_1 + 1)), EB, H', ⟨by have := HK1.out; omega⟩, ⟨RU HO_3.out⟩, ⟨RU HO_4.out⟩, ⟨RU HO688.out⟩, ⟨BU HB.out⟩⟩
        ·rw [if_neg c19] at H
         exact absurd H (by simp)
       ·rw [if_neg c17] at H
        exact absurd H (by simp)
      ·rw [if_neg c16] at H
       have c16b0 : decide (x6_1 < (t676.length : Int)) = false := decide_eq_false c16
       clear c16
       replace H := Option.bind_eq_some_iff.mp H
       obtain ⟨t689, A210, H⟩ := H
       replace H : ((estreatref02_Pack.f k1 x5_1 t689).bind fun bt690 => (if t681.length < 140737488355328 then ((some (t681 ++ [(t689) % 256] : List Int)).bind fun y694 => (if y694.length + bt690.1.length < 140737488355328 then (some (y694 ++ bt690.1)) else (none))) else (none))) = some r := H
       have A21 := Aside0.mk A210
       clear A210
       replace H := Option.bind_eq_some_iff.mp H
       obtain ⟨⟨t690, t691⟩, A220, H⟩ := H
       replace H : (if t681.length < 140737488355328 then ((some (t681 ++ [(t689) % 256] : List Int)).bind fun y694 => (if y694.length + t690.length < 140737488355328 then (some (y694 ++ t690)) else (none))) else (none)) = some r := H
       have A22 := Aside0.mk A220
       clear A220
       by_cases c23 : t681.length < 140737488355328
       ·rw [if_pos c23] at H
        have LMc23 := Aside0.mk c23
        clear c23
        obtain ⟨y694, hy694⟩ : ∃ y_ : List Int, y_ = (t681 ++ [(t689) % 256]) := ⟨_, rfl⟩
        replace H : (if y694.length + t690.length < 140737488355328 then (some (y694 ++ t690)) else (none)) = some r := by first | (rw [hy694]; with_reducible exact H) | (have H2_ := (Option.bind_some _ _).symm.trans H; rw [hy694]; with_reducible exact H2_) | (have H2_ := (Option.bind_some _ _).symm.trans H; with_reducible exact H2_) | with_reducible exact H | (rw [hy694]; exact H) | exact H
        have Ny694 := Aside0.mk hy694
        clear hy694
        by_cases c24 : y694.length + t690.length < 140737488355328
        ·rw [if_pos c24] at H
         have LMc24 := Aside0.mk c24
         clear c24
         obtain ⟨y697, hy697⟩ : ∃ y_ : List Int, y_ = (y694 ++ t690) := ⟨_, rfl⟩
         replace H : (some y697) = some r := by first | (rw [hy697]; with_reducible exact H) | (have H2_ := (Option.bind_some _ _).symm.trans H; rw [hy697]; with_reducible exact H2_) | (have H2_ := (Option.bind_some _ _).symm.trans H; with_reducible exact H2_) | with_reducible exact H | (rw [hy697]; exact H) | exact H
         have Ny697 := Aside0.mk hy697
         clear hy697
         obtain rfl := Option.some.inj H
         obtain ⟨Ao25, co25, eo25⟩ := Kd.R_slice HO_5.out
         subst eo25
         go_wp2_with (first | ((with_reducible refine gate_callee (f := 58) rfl ?_); refine goesL_ (some 39) rfl rfl Tryz.func58 (by kernel_rfl) rfl #[.slice Ao25 x5_1.length co25] rfl EA ?_; (with_reducible refine (estreatref02_Width.calls k1 _ _ x5_1 t689 _ ?side1 ?side2 A21.out).mono ?_); (case side1 => exact CU ((Kd.R_reads' HO_5.out).2.2)); (case side2 => exact (Kd.R_reads' HO_5.out).2.1); rintro e w26 ⟨rfl, hb⟩; refine ⟨_, rfl, ?_⟩; have n0_ := Aside0.mk (Kd.R_below (RU HO_3.out) hb); have n1_ := Aside0.mk (Kd.R_below (RU HO_4.out) hb); have n2_ := Aside0.mk (Kd.R_below (RU HO_5.out) hb); have n3_ := Aside0.mk (below_step (BU HB.out) hb); clear HO_3 HO_4 HO_5 HB; have HO_3 := n0_; have HO_4 := n1_; have HO_5 := n2_; have HB := n3_; clear n0_ n1_ n2_ n3_; (try clear hb); (try clear hb2); (try clear hk); (try clear hi)) | ((with_reducible refine gate_callee (f := 59) rfl ?_); refine goesL_ (some 43) rfl rfl Tryz.func59 (by kernel_rfl) rfl #[.slice Ao25 x5_1.length co25, .int .i64 t689] rfl EA ?_; (with_reducible refine (estreatref02_Pack.calls k1 _ _ x5_1 t689 t690 t691 _ ?side1 ?side2 A22.out).mono ?_); (case side1 => exact CU ((Kd.R_reads' HO_5.out).2.2)); (case side2 => exact (Kd.R_reads' HO_5.out).2.1); rintro e w27 ⟨v692, rfl, ho0, hb⟩; refine ⟨_, rfl, ?_⟩; have n0_ := Aside0.mk (Kd.R_below (RU HO_3.out) hb); have n1_ := Aside0.mk (Kd.R_elder' (RU HO_4.out) (Kd.R_base ho0) hb); have n2_ := Aside0.mk (Kd.R_below (RU HO_5.out) hb); have n3_ := Aside0.mk (Kd.R_lower (Kd.R_new' ho0 (Kd.R_lt (RU HO_4.out))) (below_size (BU HB.out))); have n4_ := Aside0.mk (below_step (BU HB.out) hb); clear HO_3 HO_4 HO_5 HB; have HO_3 := n0_; have HO_4 := n1_; have HO_5 := n2_; have HO693 := n3_; have HB := n4_; clear n0_ n1_ n2_ n3_ n4_; (try clear hb); (try clear hb2); (try clear hk); (try clear hi); (try clear ho0)) | ((with_reducible refine gate_builtin (b := .append) (xs := #[.tmp 46, .tmp 49]) rfl ?_); at_builtin; refine Kd.R_append (Kd.int .u8) (w0 := w) w.heap.size rfl (.tmp 46) (.tmp 49) 25 5 (.int .u8 0) 1 rfl Tryz.underlying25 info5 rfl (by decide) (by omega) v682 t681 ((t689) % 256) [.int .u8 ((t689) % 256)] (fun k_ => some k_ ≠ (v692 : Value).ownBlock) (fun _ => False) rfl rfl ?aP (fun _ hk => hk.elim) ?aF ?aO ?aB ?aS ?aL ?_; (case aP => exact rfl); (case aB => exact (BU HB.out)); (case aF => exact (fun k_ hk => Kd.fresh' (Kd.R_lt (RU HO693.out)) k_ hk)); (case aO => exact (RU (Kd.R_mono HO_4.out (fun _ hk => hk.2)))); (case aS => exact (below_size (BU HB.out))); (case aL => have := LMc23.out; omega); intro v695 w28 ho hb hg hat; rw [← Ny694.out] at ho; have n0_ := Aside0.mk (Kd.R_over' (RU HO_3.out) (Kd.R_typed (RU HO_4.out)) (by decide) hg); have n1_ := Aside0.mk (Kd.R_over' (RU HO_5.out) (Kd.R_typed (RU HO_4.out)) (by decide) hg); have n2_ := Aside0.mk (Kd.R_after (ok := (fun _ => True)) (RU HO693.out) hg hat); have n3_ := Aside0.mk (hb); have n4_ := Aside0.mk (ho); clear HO_3 HO_5 HO693 HB HO_4; have HO_3 := n0_; have HO_5 := n1_; have HO693 := n2_; have HB := n3_; have HO696 := n4_; clear n0_ n1_ n2_ n3_ n4_; clear ho hb hg hat; obtain ⟨Ao30, co30, eo30⟩ := Kd.R_slice HO693.out; subst eo30) | ((with_reducible refine gate_builtin (b := .append) (xs := #[.tmp 50, .tmp 51]) rfl ?_); at_builtin; refine Kd.R_append_rows (Kd.int .u8) (w0 := w) w.heap.size rfl (.tmp 50) (.tmp 51) 25 5 (.int .u8 0) 1 rfl Tryz.underlying25 info5 rfl (by decide) (by omega) v695 y694 t690 _ _ _ (fun k_ => some k_ ≠ (.slice Ao30 t690.length co30 : Value).ownBlock) (fun _ => False) rfl rfl ?aO ?aR (fun _ _ h => h) (fun _ h => h.elim) ?aF ?aB ?aS ?aL ?_; (case aR => exact CU ((Kd.R_reads' HO693.out).2.2)); (case aB => exact (BU HB.out)); (case aF => exact (fun k_ hk => Kd.fresh' (Kd.R_lt (RU HO693.out)) k_ hk)); (case aO => exact (RU HO696.out)); (case aS => exact (below_size (BU HB.out))); (case aL => have := LMc24.out; omega); intro v698 w29 ho hb hg hat; rw [← Ny697.out] at ho; have n0_ := Aside0.mk (Kd.R_over' (RU HO_3.out) (Kd.R_typed (RU HO696.out)) (by decide) hg); have n1_ := Aside0.mk (Kd.R_over' (RU HO_5.out) (Kd.R_typed (RU HO696.out)) (by decide) hg); have n2_ := Aside0.mk (Kd.R_after (ok := (fun _ => True)) (RU HO693.out) hg hat); have n3_ := Aside0.mk (hb); have n4_ := Aside0.mk (ho); clear HO_3 HO_5 HO693 HB HO696; have HO_3 := n0_; have HO_5 := n1_; have HO693 := n2_; have HB := n3_; have HO699 := n4_; clear n0_ n1_ n2_ n3_ n4_; clear ho hb hg hat))
         go_ret
         exact ⟨_, by first | rfl | (simp [errW_none, errW_some] <;> rfl) | (simp [*, errW_none, errW_some] <;> rfl), RU (Kd.R_mono HO699.out (fun _ hk => trivial)), BU HB.out⟩
        ·rw [if_neg c24] at H
         exact absurd H (by simp)
       ·rw [if_neg c23] at H
        exact absurd H (by simp)
  ·rw [if_neg c6] at H
   exact absurd H (by simp)

/-! ### estreatref11_List: function 60 -/
mutual
def estreatref11_List.l0 : Nat → List Int → List Int → Int → Option (List Int)
 | 0, _, _, _ => none
 | k + 1, x0, x3, x4 => if x4 < (x0.length : Int) then (estreatref11_List.l1 k x0 x3 x4 ([] : List Int) false 0) else (some x3)
def estreatref11_List.l1 : Nat → List Int → List Int → Int → List Int → Bool → Int → Option (List Int)
 | 0, _, _, _, _, _, _ => none
 | k + 1, x0, x3, x4, x5, x6, x7 => if x7 < (x3.length : Int) then (if x6 = true then (estreatref11_List.j2 k x0 x3 x4 x5 x6 x7 false) else (if 0 ≤ x7 then (if 0 ≤ x4 then (if x4 < (x0.length : Int) then (estreatref11_List.j2 k x0 x3 x4 x5 x6 x7 (decide ((rd x3 x7) ≥ (rd x0 x4)))) else (none)) else (none)) else (none))) else (if x6 = true then (estreatref11_List.l0 k x0 x5 (wrap64 (x4 + 1))) else (if 0 ≤ x4 then (if x4 < (x0.length : Int) then (if x5.length < 17592186044416 then (estreatref11_List.l0 k x0 (x5 ++ [rd x0 x4]) (wrap64 (x4 + 1))) else (none)) else (none)) else (none)))
def estreatref11_List.j2 : Nat → List Int → List Int → Int → List Int → Bool → Int → Bool → Option (List Int)
 | 0, _, _, _, _, _, _, _ => none
 | k + 1, x0, x3, x4, x5, x6, x7, x32 => if x32 = true then (if 0 ≤ x7 then (if x7 < (x3.length : Int) then (if 0 ≤ x4 then (if x4 < (x0.length : Int) then (if (rd x3 x7) > (rd x0 x4) then (if x5.length < 17592186044416 then ((some (x5 ++ [rd x0 x4] : List Int)).bind fun y709 => (if y709.length < 17592186044416 then (estreatref11_List.l1 k x0 x3 x4 (y709 ++ [rd x3 x7]) true (wrap64 (x7 + 1))) else (none))) else (none)) else (if x5.length < 17592186044416 then (estreatref11_List.l1 k x0 x3 x4 (x5 ++ [rd x3 x7]) true (wrap64 (x7 + 1))) else (none))) else (none)) else (none)) else (none)) else (none)) else (if 0 ≤ x7 then (if x7 < (x3.length : Int) then (if x5.length < 17592186044416 then (estreatref11_List.l1 k x0 x3 x4 (x5 ++ [rd x3 x7]) x6 (wrap64 (x7 + 1))) else (none)) else (none)) else (none))
end
def estreatref11_List.f (k : Nat) (l0 : List Int) : Option (List Int) := estreatref11_List.l0 k l0 ([] : List Int) 0
set_option maxHeartbeats 8000000 in
set_option maxRecDepth 100000 in
theorem estreatref11_List.calls (k : Nat) (A0 : Option Addr) (c0 : Nat) (l0 : List Int) (r : List Int) (w : World) (hr0 : Kd.C (Kd.int .i64) w A0 l0.length l0) (hc0 : l0.length ≤ c0) (h : estreatref11_List.f k l0 = some r) :
  Calls Tryz.prog 60 #[.slice A0 l0.length c0] w fun e w' => ∃ v0_ : Value, e = .returned (v0_) ∧ Kd.R (Kd.int .i64) 2 w' w.heap.size (fun _ => True) v0_ r ∧ Below w.heap.size w w' := by
 have HR0 := Aside0.mk hr0
 have HC0 := Aside0.mk hc0
 clear hr0 hc0
 have HB := Aside0.mk (Below.refl w.heap.size w)
 have H : (estreatref11_List.l0 k l0 ([] : List Int) 0) = some r := h
 clear h
 have H' := Aside0.mk H
 clear H
 go_enter Tryz.func60, Tryz.ntmps60
 go_wp2
 repeat (go_quiet (fail); try go_wp2)
 go_loopg [3, 4] k (fun kq v3 v4 w' => ∃ (x3_1 : List Int) (x4_1 : Int), v4 = .int .i64 x4_1 ∧ Aside0 (estreatref11_List.l0 kq l0 x3_1 x4_1 = some r) ∧ Aside0 (kq ≤ k) ∧ Aside0 (Kd.R (Kd.int .i64) 2 w' w.heap.size (fun _ => True) v3 x3_1) ∧ Aside0 (Below w.heap.size w w'))
 case atStart => exact ⟨(([] : List Int)), (0), EB, H', ⟨Nat.le_refl _⟩, ⟨by first | exact Kd.R_nil _ _ _ _ _ | exact Kd.N_nil _ _ _ _ _ | exact Kd.V_nil _ _ _ _ _ | exact Kd.Q_nil _ _ _ _ _ | exact Kd.S_nil _ _ _ _ _⟩, ⟨BU HB.out⟩⟩
 case round =>
  clear H'
  obtain ⟨x3_1, x4_1, rfl, HA, HK1, HO_3, HB⟩ := hrel
  cases gk with
  | zero => exact absurd HA.out (by simp [estreatref11_List.l0])
  | succ k1 =>
   have H := HA.out
   clear HA
   simp only [estreatref11_List.l0] at H
   by_cases c2 : x4_1 < (l0.length : Int)
   ·rw [if_pos c2] at H
    have c2b0 : decide (x4_1 < (l0.length : Int)) = true := decide_eq_true c2
    clear c2
    have H' := Aside0.mk H
    clear H
    go_wp2
    repeat (go_quiet (fail); try go_wp2)
    go_loopg [5, 6, 7] k1 (fun kq v5 v6 v7 w' => ∃ (x5_2 : List Int) (x6_2 : Bool) (x7_2 : Int), v6 = .bool x6_2 ∧ v7 = .int .i64 x7_2 ∧ Aside0 (estreatref11_List.l1 kq l0 x3_1 x4_1 x5_2 x6_2 x7_2 = some r) ∧ Aside0 (kq ≤ k1) ∧ Aside0 (Kd.R (Kd.int .i64) 2 w' w.heap.size (fun k_ => some k_ ≠ (v5 : Value).ownBlock) u3 x3_1) ∧ Aside0 (Kd.R (Kd.int .i64) 2 w' w.heap.size (fun k_ => some k_ ≠ (u3 : Value).ownBlock) v5 x5_2) ∧ Aside0 (Below w.heap.size w w'))
    case atStart => exact ⟨(([] : List Int)), (false), (0), EB, EB, H', ⟨Nat.le_refl _⟩, ⟨RU (Kd.R_mono HO_3.out (fun _ hk => (by simp [Value.ownBlock])))⟩, ⟨by first | exact Kd.R_nil _ _ _ _ _ | exact Kd.N_nil _ _ _ _ _ | exact Kd.V_nil _ _ _ _ _ | exact Kd.Q_nil _ _ _ _ _ | exact Kd.S_nil _ _ _ _ _⟩, ⟨BU HB.out⟩⟩
    case round =>
     clear H'
     try clear c2
     try clear c2b0
     try clear p2
     obtain ⟨x5_2, x6_2, x7_2, rfl, rfl, HA, HK2, HO_3, HO_5, HB⟩ := hrel
     cases gk with
     | zero => exact absurd HA.out (by simp [estreatref11_List.l1])
     | succ k2 =>
      have H := HA.out
      clear HA
      simp only [estreatref11_List.l1] at H
      by_cases c3 : x7_2 < (x3_1.length : Int)
      ·rw [if_pos c3] at H
       have c3b0 : decide (x7_2 < (x3_1.length : Int)) = true := decide_eq_true c3
       clear c3
       have HC4 := Aside0.mk H
       clear H
       obtain ⟨Ao5, co5, eo5⟩ := Kd.R_slice HO_3.out
       subst eo5
       go_upto_region 10 with (fail)
       repeat (go_quiet (fail); go_upto_region 10 with (fail))
       go_cut [32] (fun v32 wc => ∃ (kq : Nat) (x32_3 : Bool), v32 = .bool x32_3 ∧ Aside0 (estreatref11_List.j2 kq l0 x3_1 x4_1 x5_2 x6_2 x7_2 x32_3 = some r) ∧ Aside0 (kq ≤ k2) ∧ Aside0 (Kd.R (Kd.int .i64) 2 wc w.heap.size (fun k_ => some k_ ≠ (u5 : Value).ownBlock) (.slice Ao5 x3_1.length co5) x3_1) ∧ Aside0 (Kd.R (Kd.int .i64) 2 wc w.heap.size (fun k_ => some k_ ≠ ((.slice Ao5 x3_1.length co5) : Value).ownBlock) u5 x5_2) ∧ Aside0 (Below w.heap.size w wc))
       case first =>
        have H := HC4.out
        clear HC4
        by_cases c6 : x6_2 = true
        ·subst c6
         have H1 : (estreatref11_List.j2 k2 l0 x3_1 x4_1 x5_2 true x7_2 false) = some r := by rw [if_pos rfl] at H; exact H
         clear H
         have H := H1
         clear H1
         have H' := Aside0.mk H
         clear H
         go_wp2
         repeat (go_quiet (fail); try go_wp2)
         go_meet
         case rel => exact ⟨_, (false), EB, H', ⟨by have := HK1.out; have := HK2.out; first | omega | exact Nat.le_refl _⟩, ⟨RU HO_3.out⟩, ⟨RU HO_5.out⟩, ⟨BU HB.out⟩⟩
        ·replace c6 := Bool.eq_false_iff.mpr c6
         subst c6
         have H1 : (if 0 ≤ x7_2 then (if 0 ≤ x4_1 then (if x4_1 < (l0.length : Int) then (estreatref11_List.j2 k2 l0 x3_1 x4_1 x5_2 false x7_2 (decide ((rd x3_1 x7_2) ≥ (rd l0 x4_1)))) else (none)) else (none)) else (none)) = some r := by rw [if_neg (show ¬ (false = true) by decide)] at H; exact H
         clear H
         have H := H1
         clear H1
         by_cases c7 : 0 ≤ x7_2
         ·rw [if_pos c7] at H
          have c7b0 : decide (0 ≤ x7_2) = true := decide_eq_true c7
          clear c7
          (first | rw [c7b0] | (simp only [i64_w, i32_w]; rw [c7b0]) | skip)
          by_cases c8 : 0 ≤ x4_1
          ·rw [if_pos c8] at H
           have c8b0 : decide (0 ≤ x4_1) = true := decide_eq_true c8
           clear c8
           by_cases c9 : x4_1 < (l0.length : Int)
           ·rw [if_pos c9] at H
            have c9b0 : decide (x4_1 < (l0.length : Int)) = true := decide_eq_true c9
            clear c9
            have H' := Aside0.mk H
            clear H
            have p704 : 0 ≤ (x7_2 : Int) := OD
            have q704 : x7_2 < (x3_1.length : Int) := OD
            obtain ⟨ad704, e704, hx704_0⟩ := Kd.at_int (Kd.R_reads' HO_3.out).2.2 x7_2 p704 q704
            cases e704
            replace p704 := eq_true p704
            replace q704 := eq_true q704
            have p705 : 0 ≤ (x4_1 : Int) := OD
            have q705 : x4_1 < (l0.length : Int) := OD
            obtain ⟨ad705, e705, hx705_0⟩ := Kd.at_int HR0.out x4_1 p705 q705
            cases e705
            replace hx705_0 := (HB.out.cell (World.block_lt_of_cell? w _ hx705_0)).trans hx705_0
            replace p705 := eq_true p705
            replace q705 := eq_true q705
            go_wp2
            repeat (go_quiet (fail); try go_wp2)
            go_meet
            case rel => exact ⟨_, (decide ((rd x3_1 x7_2) ≥ (rd l0 x4_1))), EB, H', ⟨by have := HK1.out; have := HK2.out; first | omega | exact Nat.le_refl _⟩, ⟨RU HO_3.out⟩, ⟨RU HO_5.out⟩, ⟨BU HB.out⟩⟩
           ·rw [if_neg c9] at H
            exact absurd H (by simp)
          ·rw [if_neg c8] at H
           exact absurd H (by simp)
         ·rw [if_neg c7] at H
          exact absurd H (by simp)
       case rest =>
        clear HC4
        try clear c2
        try clear c2b0
        try clear p2
        try clear c3
        try clear c3b0
        try clear c6
        try clear c7
        try clear c7b0
        try clear p7
        try clear q7
        try clear hx7
        try clear c8
        try clear c8b0
        try clear c9
        try clear c9b0
        try clear hx704_0
        try clear hx705_0
        try clear p2
        try clear p704
        try clear p705
        try clear q704
        try clear q705
        obtain ⟨kq, x32_3, rfl, HA, HJ3, HO_3, HO_5, HB⟩ := hcut
        cases kq with
        | zero => exact absurd HA.out (by simp [estreatref11_List.j2])
        | succ kj3 =>
         have H := HA.out
         clear HA
         simp only [estreatref11_List.j2] at H
         by_cases c10 : x32_3 = true
         ·subst c10
          have H1 : (if 0 ≤ x7_2 then (if x7_2 < (x3_1.length : Int) then (if 0 ≤ x4_1 then (if x4_1 < (l0.length : Int) then (if (rd x3_1 x7_2) > (rd l0 x4_1) then (if x5_2.length < 17592186044416 then ((some (x5_2 ++ [rd l0 x4_1] : List Int)).bind fun y709 => (if y709.length < 17592186044416 then (estreatref11_List.l1 kj3 l0 x3_1 x4_1 (y709 ++ [rd x3_1 x7_2]) true (wrap64 (x7_2 + 1))) else (none))) else (none)) else (if x5_2.length < 17592186044416 then (estreatref11_List.l1 kj3 l0 x3_1 x4_1 (x5_2 ++ [rd x3_1 x7_2]) true (wrap64 (x7_2 + 1))) else (none))) else (none)) else (none)) else (none)) else (none)) = some r := by rw [if_pos rfl] at H; exact H
          clear H
          have H := H1
          clear H1
          by_cases c11 : 0 ≤ x7_2
          ·rw [if_pos c11] at H
           have c11b0 : decide (0 ≤ x7_2) = true := decide_eq_true c11
           clear c11
           by_cases c12 : x7_2 < (x3_1.length : Int)
           ·rw [if_pos c12] at H
            have c12b0 : decide (x7_2 < (x3_1.length : Int)) = true := decide_eq_true c12
            clear c12
            by_cases c13 : 0 ≤ x4_1
            ·rw [if_pos c13] at H
             have c13b0 : decide (0 ≤ x4_1) = true := decide_eq_true c13
             clear c13
             by_cases c14 : x4_1 < (l0.length : Int)
             ·rw [if_pos c14] at H
              have c14b0 : decide (x4_1 < (l0.length : Int)) = true := decide_eq_true c14
              clear c14
              by_cases c15 : (rd x3_1 x7_2) > (rd l0 x4_1)
              ·rw [if_pos c15] at H
               have c15b0 : decide ((rd l0 x4_1) < (rd x3_1 x7_2)) = true := decide_eq_true c15
               clear c15
               by_cases c16 : x5_2.length < 17592186044416
               ·rw [if_pos c16] at H
                have LMc16 := Aside0.mk c16
                clear c16
                obtain ⟨y709, hy709⟩ : ∃ y_ : List Int, y_ = (x5_2 ++ [rd l0 x4_1]) := ⟨_, rfl⟩
                replace H : (if y709.length < 17592186044416 then (estreatref11_List.l1 kj3 l0 x3_1 x4_1 (y709 ++ [rd x3_1 x7_2]) true (wrap64 (x7_2 + 1))) else (none)) = some r := by first | (rw [hy709]; with_reducible exact H) | (have H2_ := (Option.bind_some _ _).symm.trans H; rw [hy709]; with_reducible exact H2_) | (have H2_ := (Option.bind_some _ _).symm.trans H; with_reducible exact H2_) | with_reducible exact H | (rw [hy709]; exact H) | exact H
                have Ny709 := Aside0.mk hy709
                clear hy709
                by_cases c17 : y709.length < 17592186044416
                ·rw [if_pos c17] at H
                 have LMc17 := Aside0.mk c17
                 clear c17
                 obtain ⟨y713, hy713⟩ : ∃ y_ : List Int, y_ = (y709 ++ [rd x3_1 x7_2]) := ⟨_, rfl⟩
                 replace H : (estreatref11_List.l1 kj3 l0 x3_1 x4_1 y713 true (wrap64 (x7_2 + 1))) = some r := by first | (rw [hy713]; with_reducible exact H) | (have H2_ := (Option.bind_some _ _).symm.trans H; rw [hy713]; with_reducible exact H2_) | (have H2_ := (Option.bind_some _ _).symm.trans H; with_reducible exact H2_) | with_reducible exact H | (rw [hy713]; exact H) | exact H
                 have Ny713 := Aside0.mk hy713
                 clear hy713
                 have H' := Aside0.mk H
                 clear H
                 have p706 : 0 ≤ (x7_2 : Int) := OD
                 have q706 : x7_2 < (x3_1.length : Int) := OD
                 obtain ⟨ad706, e706, hx706_0⟩ := Kd.at_int (Kd.R_reads' HO_3.out).2.2 x7_2 p706 q706
                 cases e706
                 replace p706 := eq_true p706
                 replace q706 := eq_true q706
                 have p707 : 0 ≤ (x4_1 : Int) := OD
                 have q707 : x4_1 < (l0.length : Int) := OD
                 obtain ⟨ad707, e707, hx707_0⟩ := Kd.at_int HR0.out x4_1 p707 q707
                 cases e707
                 replace hx707_0 := (HB.out.cell (World.block_lt_of_cell? w _ hx707_0)).trans hx707_0
                 replace p707 := eq_true p707
                 replace q707 := eq_true q707
                 have p708 : 0 ≤ (x4_1 : Int) := OD
                 have q708 : x4_1 < (l0.length : Int) := OD
                 obtain ⟨ad708, e708, hx708_0⟩ := Kd.at_int HR0.out x4_1 p708 q708
                 obtain rfl : ad707 = ad708 := (by injection e708)
                 replace hx708_0 := (HB.out.cell (World.block_lt_of_cell? w _ hx708_0)).trans hx708_0
                 replace p708 := eq_true p708
                 replace q708 := eq_true q708
                 go_wp2_with (first | ((with_reducible refine gate_builtin (b := .append) (xs := #[.tmp 42, .tmp 47]) rfl ?_); at_builtin; refine Kd.R_append (Kd.int .i64) (w0 := w) w.heap.size rfl (.tmp 42) (.tmp 47) 41 2 (.int .i64 0) 8 rfl Tryz.underlying41 info2 rfl (by decide) (by omega) u5 x5_2 (rd l0 x4_1) [.int .i64 (rd l0 x4_1)] (fun k_ => some k_ ≠ (.slice (some ad706) x3_1.length co5 : Value).ownBlock) (fun _ => False) rfl rfl ?aP (fun _ hk => hk.elim) ?aF ?aO ?aB ?aS ?aL ?_; (case aP => exact rfl); (case aB => exact (BU HB.out)); (case aF => exact (fun k_ hk => Kd.fresh' (Kd.R_lt (RU HO_3.out)) k_ hk)); (case aO => exact (RU HO_5.out)); (case aS => exact (below_size (BU HB.out))); (case aL => have := LMc16.out; omega); intro v710 w18 ho hb hg hat; rw [← Ny709.out] at ho; have n0_ := Aside0.mk (Kd.R_after (ok := (fun _ => True)) (RU (Kd.R_mono HO_3.out (fun _ hk => ⟨trivial, hk⟩))) hg hat); have n1_ := Aside0.mk (hb); have n2_ := Aside0.mk (ho); clear HO_3 HB HO_5; have HO_3 := n0_; have HB := n1_; have HO711 := n2_; clear n0_ n1_ n2_; clear ho hb hg hat; have p712 : 0 ≤ (x7_2 : Int) := OD; have q712 : x7_2 < (x3_1.length : Int) := OD; obtain ⟨ad712, e712, hx712_0⟩ := Kd.at_int (Kd.R_reads' HO_3.out).2.2 x7_2 p712 q712; obtain rfl : ad706 = ad712 := (by injection e712); replace p712 := eq_true p712; replace q712 := eq_true q712) | ((with_reducible refine gate_builtin (b := .append) (xs := #[.tmp 49, .tmp 54]) rfl ?_); at_builtin; refine Kd.R_append (Kd.int .i64) (w0 := w) w.heap.size rfl (.tmp 49) (.tmp 54) 41 2 (.int .i64 0) 8 rfl Tryz.underlying41 info2 rfl (by decide) (by omega) v710 y709 (rd x3_1 x7_2) [.int .i64 (rd x3_1 x7_2)] (fun k_ => some k_ ≠ (.slice (some ad706) x3_1.length co5 : Value).ownBlock) (fun _ => False) rfl rfl ?aP (fun _ hk => hk.elim) ?aF ?aO ?aB ?aS ?aL ?_; (case aP => exact rfl); (case aB => exact (BU HB.out)); (case aF => exact (fun k_ hk => Kd.fresh' (Kd.R_lt (RU HO_3.out)) k_ hk)); (case aO => exact (RU HO711.out)); (case aS => exact (below_size (BU HB.out))); (case aL => have := LMc17.out; omega); intro v714 w19 ho hb hg hat; rw [← Ny713.out] at ho; have n0_ := Aside0.mk (Kd.R_after (ok := (fun _ => True)) (RU HO_3.out) hg hat); have n1_ := Aside0.mk (hb); have n2_ := Aside0.mk (ho); clear HO_3 HB HO711; have HO_3 := n0_; have HB := n1_; have HO715 := n2_; clear n0_ n1_ n2_; clear ho hb hg hat))
                 repeat (go_quiet (first | ((with_reducible refine gate_builtin (b := .append) (xs := #[.tmp 42, .tmp 47]) rfl ?_); at_builtin; refine Kd.R_append (Kd.int .i64) (w0 := w) w.heap.size rfl (.tmp 42) (.tmp 47) 41 2 (.int .i64 0) 8 rfl Tryz.underlying41 info2 rfl (by decide) (by omega) u5 x5_2 (rd l0 x4_1) [.int .i64 (rd l0 x4_1)] (fun k_ => some k_ ≠ (.slice (some ad706) x3_1.length co5 : Value).ownBlock) (fun _ => False) rfl rfl ?aP (fun _ hk => hk.elim) ?aF ?aO ?aB ?aS ?aL ?_; (case aP => exact rfl); (case aB => exact (BU HB.out)); (case aF => exact (fun k_ hk => Kd.fresh' (Kd.R_lt (RU HO_3.out)) k_ hk)); (case aO => exact (RU HO_5.out)); (case aS => exact (below_size (BU HB.out))); (case aL => have := LMc16.out; omega); intro v710 w18 ho hb hg hat; rw [← Ny709.out] at ho; have n0_ := Aside0.mk (Kd.R_after (ok := (fun _ => True)) (RU (Kd.R_mono HO_3.out (fun _ hk => ⟨trivial, hk⟩))) hg hat); have n1_ := Aside0.mk (hb); have n2_ := Aside0.mk (ho); clear HO_3 HB HO_5; have HO_3 := n0_; have HB := n1_; have HO711 := n2_; clear n0_ n1_ n2_; clear ho hb hg hat; have p712 : 0 ≤ (x7_2 : Int) := OD; have q712 : x7_2 < (x3_1.length : Int) := OD; obtain ⟨ad712, e712, hx712_0⟩ := Kd.at_int (Kd.R_reads' HO_3.out).2.2 x7_2 p712 q712; obtain rfl : ad706 = ad712 := (by injection e712); replace p712 := eq_true p712; replace q712 := eq_true q712) | ((with_reducible refine gate_builtin (b := .append) (xs := #[.tmp 49, .tmp 54]) rfl ?_); at_builtin; refine Kd.R_append (Kd.int .i64) (w0 := w) w.heap.size rfl (.tmp 49) (.tmp 54) 41 2 (.int .i64 0) 8 rfl Tryz.underlying41 info2 rfl (by decide) (by omega) v710 y709 (rd x3_1 x7_2) [.int .i64 (rd x3_1 x7_2)] (fun k_ => some k_ ≠ (.slice (some ad706) x3_1.length co5 : Value).ownBlock) (fun _ => False) rfl rfl ?aP (fun _ hk => hk.elim) ?aF ?aO ?aB ?aS ?aL ?_; (case aP => exact rfl); (case aB => exact (BU HB.out)); (case aF => exact (fun k_ hk => Kd.fresh' (Kd.R_lt (RU HO_3.out)) k_ hk)); (case aO => exact (RU HO711.out)); (case aS => exact (below_size (BU HB.out))); (case aL => have := LMc17.out; omega); intro v714 w19 ho hb hg hat; rw [← Ny713.out] at ho; have n0_ := Aside0.mk (Kd.R_after (ok := (fun _ => True)) (RU HO_3.out) hg hat); have n1_ := Aside0.mk (hb); have n2_ := Aside0.mk (ho); clear HO_3 HB HO711; have HO_3 := n0_; have HB := n1_; have HO715 := n2_; clear n0_ n1_ n2_; clear ho hb hg hat)); try go_wp2_with (first | ((with_reducible refine gate_builtin (b := .append) (xs := #[.tmp 42, .tmp 47]) rfl ?_); at_builtin; refine Kd.R_append (Kd.int .i64) (w0 := w) w.heap.size rfl (.tmp 42) (.tmp 47) 41 2 (.int .i64 0) 8 rfl Tryz.underlying41 info2 rfl (by decide) (by omega) u5 x5_2 (rd l0 x4_1) [.int .i64 (rd l0 x4_1)] (fun k_ => some k_ ≠ (.slice (some ad706) x3_1.length co5 : Value).ownBlock) (fun _ => False) rfl rfl ?aP (fun _ hk => hk.elim) ?aF ?aO ?aB ?aS ?aL ?_; (case aP => exact rfl); (case aB => exact (BU HB.out)); (case aF => exact (fun k_ hk => Kd.fresh' (Kd.R_lt (RU HO_3.out)) k_ hk)); (case aO => exact (RU HO_5.out)); (case aS => exact (below_size (BU HB.out))); (case aL => have := LMc16.out; omega); intro v710 w18 ho hb hg hat; rw [← Ny709.out] at ho; have n0_ := Aside0.mk (Kd.R_after (ok := (fun _ => True)) (RU (Kd.R_mono HO_3.out (fun _ hk => ⟨trivial, hk⟩))) hg hat); have n1_ := Aside0.mk (hb); have n2_ := Aside0.mk (ho); clear HO_3 HB HO_5; have HO_3 := n0_; have HB := n1_; have HO711 := n2_; clear n0_ n1_ n2_; clear ho hb hg hat; have p712 : 0 ≤ (x7_2 : Int) := OD; have q712 : x7_2 < (x3_1.length : Int) := OD; obtain ⟨ad712, e712, hx712_0⟩ := Kd.at_int (Kd.R_reads' HO_3.out).2.2 x7_2 p712 q712; obtain rfl : ad706 = ad712 := (by injection e712); replace p712 := eq_true p712; replace q712 := eq_true q712) | ((with_reducible refine gate_builtin (b := .append) (xs := #[.tmp 49, .tmp 54]) rfl ?_); at_builtin; refine Kd.R_append (Kd.int .i64) (w0 := w) w.heap.size rfl (.tmp 49) (.tmp 54) 41 2 (.int .i64 0) 8 rfl Tryz.underlying41 info2 rfl (by decide) (by omega) v710 y709 (rd x3_1 x7_2) [.int .i64 (rd x3_1 x7_2)] (fun k_ => some k_ ≠ (.slice (some ad706) x3_1.length co5 : Value).ownBlock) (fun _ => False) rfl rfl ?aP (fun _ hk => hk.elim) ?aF ?aO ?aB ?aS ?aL ?_; (case aP => exact rfl); (case aB => exact (BU HB.out)); (case aF => exact (fun k_ hk => Kd.fresh' (Kd.R_lt (RU HO_3.out)) k_ hk)); (case aO => exact (RU HO711.out)); (case aS => exact (below_size (BU HB.out))); (case aL => have := LMc17.out; omega); intro v714 w19 ho hb hg hat; rw [← Ny713.out] at ho; have n0_ := Aside0.mk (Kd.R_after (ok := (fun _ => True)) (RU HO_3.out) hg hat); have n1_ := Aside0.mk (hb); have n2_ := Aside0.mk (ho); clear HO_3 HB HO711; have HO_3 := n0_; have HB := n1_; have HO715 := n2_; clear n0_ n1_ n2_; clear ho hb hg hat)))
                 go_roundg kj3
                 case measure => have := HK1.out; have := HK2.out; have := HJ3.out; omega
                 case rel => exact ⟨(y713), (true), (wrap64 (x7_2 + 1)), EB, EB, H', ⟨by have := HK1.out; have := HK2.out; have := HJ3.out; omega⟩, ⟨RU (Kd.R_mono HO_3.out (fun _ hk => hk.2))⟩, ⟨RU HO715.out⟩, ⟨BU HB.out⟩⟩
                ·rw [if_neg c17] at H
                 exact absurd H (by simp)
               ·rw [if_neg c16] at H
                exact absurd H (by simp)
              ·rw [if_neg c15] at H
               have c15b0 : decide ((rd l0 x4_1) < (rd x3_1 x7_2)) = false := decide_eq_false c15
               clear c15
               by_cases c20 : x5_2.length < 17592186044416
               ·rw [if_pos c20] at H
                have LMc20 := Aside0.mk c20
                clear c20
                obtain ⟨y717, hy717⟩ : ∃ y_ : List Int, y_ = (x5_2 ++ [rd x3_1 x7_2]) := ⟨_, rfl⟩
                replace H : (estreatref11_List.l1 kj3 l0 x3_1 x4_1 y717 true (wrap64 (x7_2 + 1))) = some r := by first | (rw [hy717]; with_reducible exact H) | (have H2_ := (Option.bind_some _ _).symm.trans H; rw [hy717]; with_reducible exact H2_) | (have H2_ := (Option.bind_some _ _).symm.trans H; with_reducible exact H2_) | with_reducible exact H | (rw [hy717]; exact H) | exact H
                have Ny717 := Aside0.mk hy717
                clear hy717
                have H' := Aside0.mk H
                clear H
                have p706 : 0 ≤ (x7_2 : Int) := OD
                have q706 : x7_2 < (x3_1.length : Int) := OD
                obtain ⟨ad706, e706, hx706_0⟩ := Kd.at_int (Kd.R_reads' HO_3.out).2.2 x7_2 p706 q706
                cases e706
                replace p706 := eq_true p706
                replace q706 := eq_true q706
                have p707 : 0 ≤ (x4_1 : Int) := OD
                have q707 : x4_1 < (l0.length : Int) := OD
                obtain ⟨ad707, e707, hx707_0⟩ := Kd.at_int HR0.out x4_1 p707 q707
                cases e707
                replace hx707_0 := (HB.out.cell (World.block_lt_of_cell? w _ hx707_0)).trans hx707_0
                replace p707 := eq_true p707
                replace q707 := eq_true q707
                have p716 : 0 ≤ (x7_2 : Int) := OD
                have q716 : x7_2 < (x3_1.length : Int) := OD
                obtain ⟨ad716, e716, hx716_0⟩ := Kd.at_int (Kd.R_reads' HO_3.out).2.2 x7_2 p716 q716
                obtain rfl : ad706 = ad716 := (by injection e716)
                replace p716 := eq_true p716
                replace q716 := eq_true q716
                go_wp2_with (first | ((with_reducible refine gate_builtin (b := .append) (xs := #[.tmp 49, .tmp 54]) rfl ?_); at_builtin; refine Kd.R_append (Kd.int .i64) (w0 := w) w.heap.size rfl (.tmp 49) (.tmp 54) 41 2 (.int .i64 0) 8 rfl Tryz.underlying41 info2 rfl (by decide) (by omega) u5 x5_2 (rd x3_1 x7_2) [.int .i64 (rd x3_1 x7_2)] (fun k_ => some k_ ≠ (.slice (some ad706) x3_1.length co5 : Value).ownBlock) (fun _ => False) rfl rfl ?aP (fun _ hk => hk.elim) ?aF ?aO ?aB ?aS ?aL ?_; (case aP => exact rfl); (case aB => exact (BU HB.out)); (case aF => exact (fun k_ hk => Kd.fresh' (Kd.R_lt (RU HO_3.out)) k_ hk)); (case aO => exact (RU HO_5.out)); (case aS => exact (below_size (BU HB.out))); (case aL => have := LMc20.out; omega); intro v718 w21 ho hb hg hat; rw [← Ny717.out] at ho; have n0_ := Aside0.mk (Kd.R_after (ok := (fun _ => True)) (RU (Kd.R_mono HO_3.out (fun _ hk => ⟨trivial, hk⟩))) hg hat); have n1_ := Aside0.mk (hb); have n2_ := Aside0.mk (ho); clear HO_3 HB HO_5; have HO_3 := n0_; have HB := n1_; have HO719 := n2_; clear n0_ n1_ n2_; clear ho hb hg hat))
                repeat (go_quiet (first | ((with_reducible refine gate_builtin (b := .append) (xs := #[.tmp 49, .tmp 54]) rfl ?_); at_builtin; refine Kd.R_append (Kd.int .i64) (w0 := w) w.heap.size rfl (.tmp 49) (.tmp 54) 41 2 (.int .i64 0) 8 rfl Tryz.underlying41 info2 rfl (by decide) (by omega) u5 x5_2 (rd x3_1 x7_2) [.int .i64 (rd x3_1 x7_2)] (fun k_ => some k_ ≠ (.slice (some ad706) x3_1.length co5 : Value).ownBlock) (fun _ => False) rfl rfl ?aP (fun _ hk => hk.elim) ?aF ?aO ?aB ?aS ?aL ?_; (case aP => exact rfl); (case aB => exact (BU HB.out)); (case aF => exact (fun k_ hk => Kd.fresh' (Kd.R_lt (RU HO_3.out)) k_ hk)); (case aO => exact (RU HO_5.out)); (case aS => exact (below_size (BU HB.out))); (case aL => have := LMc20.out; omega); intro v718 w21 ho hb hg hat; rw [← Ny717.out] at ho; have n0_ := Aside0.mk (Kd.R_after (ok := (fun _ => True)) (RU (Kd.R_mono HO_3.out (fun _ hk => ⟨trivial, hk⟩))) hg hat); have n1_ := Aside0.mk (hb); have n2_ := Aside0.mk (ho); clear HO_3 HB HO_5; have HO_3 := n0_; have HB := n1_; have HO719 := n2_; clear n0_ n1_ n2_; clear ho hb hg hat)); try go_wp2_with (first | ((with_reducible refine gate_builtin (b := .append) (xs := #[.tmp 49, .tmp 54]) rfl ?_); at_builtin; refine Kd.R_append (Kd.int .i64) (w0 := w) w.heap.size rfl (.tmp 49) (.tmp 54) 41 2 (.int .i64 0) 8 rfl Tryz.underlying41 info2 rfl (by decide) (by omega) u5 x5_2 (rd x3_1 x7_2) [.int .i64 (rd x3_1 x7_2)] (fun k_ => some k_ ≠ (.slice (some ad706) x3_1.length co5 : Value).ownBlock) (fun _ => False) rfl rfl ?aP (fun _ hk => hk.elim) ?aF ?aO ?aB ?aS ?aL ?_; (case aP => exact rfl); (case aB => exact (BU HB.out)); (case aF => exact (fun k_ hk => Kd.fresh' (Kd.R_lt (RU HO_3.out)) k_ hk)); (case aO => exact (RU HO_5.out)); (case aS => exact (below_size (BU HB.out))); (case aL => have := LMc20.out; omega); intro v718 w21 ho hb hg hat; rw [← Ny717.out] at ho; have n0_ := Aside0.mk (Kd.R_after (ok := (fun _ => True)) (RU (Kd.R_mono HO_3.out (fun _ hk => ⟨trivial, hk⟩))) hg hat); have n1_ := Aside0.mk (hb); have n2_ := Aside0.mk (ho); clear HO_3 HB HO_5; have HO_3 := n0_; have HB := n1_; have HO719 := n2_; clear n0_ n1_ n2_; clear ho hb hg hat)))
                go_roundg kj3
                case measure => have := HK1.out; have := HK2.out; have := HJ3.out; omega
                case rel => exact ⟨(y717), (true), (wrap64 (x7_2 + 1)), EB, EB, H', ⟨by have := HK1.out; have := HK2.out; have := HJ3.out; omega⟩, ⟨RU (Kd.R_mono HO_3.out (fun _ hk => hk.2))⟩, ⟨RU HO719.out⟩, ⟨BU HB.out⟩⟩
               ·rw [if_neg c20] at H
                exact absurd H (by simp)
             ·rw [if_neg c14] at H
              exact absurd H (by simp)
            ·rw [if_neg c13] at H
             exact absurd H (by simp)
           ·rw [if_neg c12] at H
            exact absurd H (by simp)
          ·rw [if_neg c11] at H
           exact absurd H (by simp)
         ·replace c10 := Bool.eq_false_iff.mpr c10
          subst c10
          have H1 : (if 0 ≤ x7_2 then (if x7_2 < (x3_1.length : Int) then (if x5_2.length < 17592186044416 then (estreatref11_List.l1 kj3 l0 x3_1 x4_1 (x5_2 ++ [rd x3_1 x7_2]) x6_2 (wrap64 (x7_2 + 1))) else (none)) else (none)) else (none)) = some r := by rw [if_neg (show ¬ (false = true) by decide)] at H; exact H
          clear H
          have H := H1
          clear H1
          by_cases c22 : 0 ≤ x7_2
          ·rw [if_pos c22] at H
           have c22b0 : decide (0 ≤ x7_2) = true := decide_eq_true c22
           clear c22
           by_cases c23 : x7_2 < (x3_1.length : Int)
           ·rw [if_pos c23] at H
            have c23b0 : decide (x7_2 < (x3_1.length : Int)) = true := decide_eq_true c23
            clear c23
            by_cases c24 : x5_2.length < 17592186044416
            ·rw [if_pos c24] at H
             have LMc24 := Aside0.mk c24
             clear c24
             obtain ⟨y721, hy721⟩ : ∃ y_ : List Int, y_ = (x5_2 ++ [rd x3_1 x7_2]) := ⟨_, rfl⟩
             replace H : (estreatref11_List.l1 kj3 l0 x3_1 x4_1 y721 x6_2 (wrap64 (x7_2 + 1))) = some r := by first | (rw [hy721]; with_reducible exact H) | (have H2_ := (Option.bind_some _ _).symm.trans H; rw [hy721]; with_reducible exact H2_) | (have H2_ := (Option.bind_some _ _).symm.trans H; with_reducible exact H2_) | with_reducible exact H | (rw [hy721]; exact H) | exact H
             have Ny721 := Aside0.mk hy721
             clear hy721
             have H' := Aside0.mk H
             clear H
             have p720 : 0 ≤ (x7_2 : Int) := OD
             have q720 : x7_2 < (x3_1.length : Int) := OD
             obtain ⟨ad720, e720, hx720_0⟩ := Kd.at_int (Kd.R_reads' HO_3.out).2.2 x7_2 p720 q720
             cases e720
             replace p720 := eq_true p720
             replace q720 := eq_true q720
             go_wp2_with (first | ((with_reducible refine gate_builtin (b := .append) (xs := #[.tmp 49, .tmp 54]) rfl ?_); at_builtin; refine Kd.R_append (Kd.int .i64) (w0 := w) w.heap.size rfl (.tmp 49) (.tmp 54) 41 2 (.int .i64 0) 8 rfl Tryz.underlying41 info2 rfl (by decide) (by omega) u5 x5_2 (rd x3_1 x7_2) [.int .i64 (rd x3_1 x7_2)] (fun k_ => some k_ ≠ (.slice (some ad720) x3_1.length co5 : Value).ownBlock) (fun _ => False) rfl rfl ?aP (fun _ hk => hk.elim) ?aF ?aO ?aB ?aS ?aL ?_; (case aP => exact rfl); (case aB => exact (BU HB.out)); (case aF => exact (fun k_ hk => Kd.fresh' (Kd.R_lt (RU HO_3.out)) k_ hk)); (case aO => exact (RU HO_5.out)); (case aS => exact (below_size (BU HB.out))); (case aL => have := LMc24.out; omega); intro v722 w25 ho hb hg hat; rw [← Ny721.out] at ho; have n0_ := Aside0.mk (Kd.R_after (ok := (fun _ => True)) (RU (Kd.R_mono HO_3.out (fun _ hk => ⟨trivial, hk⟩))) hg hat); have n1_ := Aside0.mk (hb); have n2_ := Aside0.mk (ho); clear HO_3 HB HO_5; have HO_3 := n0_; have HB := n1_; have HO723 := n2_; clear n0_ n1_ n2_; clear ho hb hg hat))
             repeat (go_quiet (first | ((with_reducible refine gate_builtin (b := .append) (xs := #[.tmp 49, .tmp 54]) rfl ?_); at_builtin; refine Kd.R_append (Kd.int .i64) (w0 := w) w.heap.size rfl (.tmp 49) (.tmp 54) 41 2 (.int .i64 0) 8 rfl Tryz.underlying41 info2 rfl (by decide) (by omega) u5 x5_2 (rd x3_1 x7_2) [.int .i64 (rd x3_1 x7_2)] (fun k_ => some k_ ≠ (.slice (some ad720) x3_1.length co5 : Value).ownBlock) (fun _ => False) rfl rfl ?aP (fun _ hk => hk.elim) ?aF ?aO ?aB ?aS ?aL ?_; (case aP => exact rfl); (case aB => exact (BU HB.out)); (case aF => exact (fun k_ hk => Kd.fresh' (Kd.R_lt (RU HO_3.out)) k_ hk)); (case aO => exact (RU HO_5.out)); (case aS => exact (below_size (BU HB.out))); (case aL => have := LMc24.out; omega); intro v722 w25 ho hb hg hat; rw [← Ny721.out] at ho; have n0_ := Aside0.mk (Kd.R_after (ok := (fun _ => True)) (RU (Kd.R_mono HO_3.out (fun _ hk => ⟨trivial, hk⟩))) hg hat); have n1_ := Aside0.mk (hb); have n2_ := Aside0.mk (ho); clear HO_3 HB HO_5; have HO_3 := n0_; have HB := n1_; have HO723 := n2_; clear n0_ n1_ n2_; clear ho hb hg hat)); try go_wp2_with (first | ((with_reducible refine gate_builtin (b := .append) (xs := #[.tmp 49, .tmp 54]) rfl ?_); at_builtin; refine Kd.R_append (Kd.int .i64) (w0 := w) w.heap.size rfl (.tmp 49) (.tmp 54) 41 2 (.int .i64 0) 8 rfl Tryz.underlying41 info2 rfl (by decide) (by omega) u5 x5_2 (rd x3_1 x7_2) [.int .i64 (rd x3_1 x7_2)] (fun k_ => some k_ ≠ (.slice (some ad720) x3_1.length co5 : Value).ownBlock) (fun _ => False) rfl rfl ?aP (fun _ hk => hk.elim) ?aF ?aO ?aB ?aS ?aL ?_; (case aP => exact rfl); (case aB => exact (BU HB.out)); (case aF => exact (fun k_ hk => Kd.fresh' (Kd.R_lt (RU HO_3.out)) k_ hk)); (case aO => exact (RU HO_5.out)); (case aS => exact (below_size (BU HB.out))); (case aL => have := LMc24.out; omega); intro v722 w25 ho hb hg hat; rw [← Ny721.out] at ho; have n0_ := Aside0.mk (Kd.R_after (ok := (fun _ => True)) (RU (Kd.R_mono HO_3.out (fun _ hk => ⟨trivial, hk⟩))) hg hat); have n1_ := Aside0.mk (hb); have n2_ := Aside0.mk (ho); clear HO_3 HB HO_5; have HO_3 := n0_; have HB := n1_; have HO723 := n2_; clear n0_ n1_ n2_; clear ho hb hg hat)))
             go_roundg kj3
             case measure => have := HK1.out; have := HK2.out; have := HJ3.out; omega
             case rel => exact ⟨(y721), (x6_2), (wrap64 (x7_2 + 1)), EB, EB, H', ⟨by have := HK1.out; have := HK2.out; have := HJ3.out; omega⟩, ⟨RU (Kd.R_mono HO_3.out (fun _ hk => hk.2))⟩, ⟨RU HO723.out⟩, ⟨BU HB.out⟩⟩
            ·rw [if_neg c24] at H
             exact absurd H (by simp)
           ·rw [if_neg c23] at H
            exact absurd H (by simp)
          ·rw [if_neg c22] at H
           exact absurd H (by simp)
      ·rw [if_neg c3] at H
       have c3b0 : decide (x7_2 < (x3_1.length : Int)) = false := decide_eq_false c3
       clear c3
       by_cases c26 : x6_2 = true
       ·subst c26
        have H1 : (estreatref11_List.l0 k2 l0 x5_2 (wrap64 (x4_1 + 1))) = some r := by rw [if_pos rfl] at H; exact H
        clear H
        have H := H1
        clear H1
        have H' := Aside0.mk H
        clear H
        obtain ⟨Ao27, co27, eo27⟩ := Kd.R_slice HO_3.out
        subst eo27
        go_wp2
        repeat (go_quiet (fail); try go_wp2)
        go_roundg k2
        case measure => have := HK1.out; have := HK2.out; omega
        case rel => exact ⟨(x5_2), (wrap64 (x4_1 + 1)), EB, H', ⟨by have := HK1.out; have := HK2.out; omega⟩, ⟨RU (Kd.R_mono HO_5.out (fun _ hk => trivial))⟩, ⟨BU HB.out⟩⟩
       ·replace c26 := Bool.eq_false_iff.mpr c26
        subst c26
        have H1 : (if 0 ≤ x4_1 then (if x4_1 < (l0.length : Int) then (if x5_2.length < 17592186044416 then (estreatref11_List.l0 k2 l0 (x5_2 ++ [rd l0 x4_1]) (wrap64 (x4_1 + 1))) else (none)) else (none)) else (none)) = some r := by rw [if_neg (show ¬ (false = true) by decide)] at H; exact H
        clear H
        have H := H1
        clear H1
        by_cases c28 : 0 ≤ x4_1
        ·rw [if_pos c28] at H
         have c28b0 : decide (0 ≤ x4_1) = true := decide_eq_true c28
         clear c28
         by_cases c29 : x4_1 < (l0.length : Int)
         ·rw [if_pos c29] at H
          have c29b0 : decide (x4_1 < (l0.length : Int)) = true := decide_eq_true c29
          clear c29
          by_cases c30 : x5_2.length < 17592186044416
          ·rw [if_pos c30] at H
           have LMc30 := Aside0.mk c30
           clear c30
           obtain ⟨y701, hy701⟩ : ∃ y_ : List Int, y_ = (x5_2 ++ [rd l0 x4_1]) := ⟨_, rfl⟩
           replace H : (estreatref11_List.l0 k2 l0 y701 (wrap64 (x4_1 + 1))) = some r := by first | (rw [hy701]; with_reducible exact H) | (have H2_ := (Option.bind_some _ _).symm.trans H; rw [hy701]; with_reducible exact H2_) | (have H2_ := (Option.bind_some _ _).symm.trans H; with_reducible exact H2_) | with_reducible exact H | (rw [hy701]; exact H) | exact H
           have Ny701 := Aside0.mk hy701
           clear hy701
           have H' := Aside0.mk H
           clear H
           obtain ⟨Ao31, co31, eo31⟩ := Kd.R_slice HO_3.out
           subst eo31
           have p700 : 0 ≤ (x4_1 : Int) := OD
           have q700 : x4_1 < (l0.length : Int) := OD
           obtain ⟨ad700, e700, hx700_0⟩ := Kd.at_int HR0.out x4_1 p700 q700
           cases e700
           replace hx700_0 := (HB.out.cell (World.block_lt_of_cell? w _ hx700_0)).trans hx700_0
           replace p700 := eq_true p700
           replace q700 := eq_true q700
           go_wp2_with (first | ((with_reducible refine gate_builtin (b := .append) (xs := #[.tmp 58, .tmp 63]) rfl ?_); at_builtin; refine Kd.R_append (Kd.int .i64) (w0 := w) w.heap.size rfl (.tmp 58) (.tmp 63) 41 2 (.int .i64 0) 8 rfl Tryz.underlying41 info2 rfl (by decide) (by omega) u5 x5_2 (rd l0 x4_1) [.int .i64 (rd l0 x4_1)] (fun k_ => some k_ ≠ (.slice Ao31 x3_1.length co31 : Value).ownBlock) (fun _ => False) rfl rfl ?aP (fun _ hk => hk.elim) ?aF ?aO ?aB ?aS ?aL ?_; (case aP => exact rfl); (case aB => exact (BU HB.out)); (case aF => exact (fun k_ hk => Kd.fresh' (Kd.R_lt (RU HO_3.out)) k_ hk)); (case aO => exact (RU HO_5.out)); (case aS => exact (below_size (BU HB.out))); (case aL => have := LMc30.out; omega); intro v702 w32 ho hb hg hat; rw [← Ny701.out] at ho; have n0_ := Aside0.mk (Kd.R_after (ok := (fun _ => True)) (RU (Kd.R_mono HO_3.out (fun _ hk => ⟨trivial, hk⟩))) hg hat); have n1_ := Aside0.mk (hb); have n2_ := Aside0.mk (ho); clear HO_3 HB HO_5; have HO_3 := n0_; have HB := n1_; have HO703 := n2_; clear n0_ n1_ n2_; clear ho hb hg hat))
           repeat (go_quiet (first | ((with_reducible refine gate_builtin (b := .append) (xs := #[.tmp 58, .tmp 63]) rfl ?_); at_builtin; refine Kd.R_append (Kd.int .i64) (w0 := w) w.heap.size rfl (.tmp 58) (.tmp 63) 41 2 (.int .i64 0) 8 rfl Tryz.underlying41 info2 rfl (by decide) (by omega) u5 x5_2 (rd l0 x4_1) [.int .i64 (rd l0 x4_1)] (fun k_ => some k_ ≠ (.slice Ao31 x3_1.length co31 : Value).ownBlock) (fun _ => False) rfl rfl ?aP (fun _ hk => hk.elim) ?aF ?aO ?aB ?aS ?aL ?_; (case aP => exact rfl); (case aB => exact (BU HB.out)); (case aF => exact (fun k_ hk => Kd.fresh' (Kd.R_lt (RU HO_3.out)) k_ hk)); (case aO => exact (RU HO_5.out)); (case aS => exact (below_size (BU HB.out))); (case aL => have := LMc30.out; omega); intro v702 w32 ho hb hg hat; rw [← Ny701.out] at ho; have n0_ := Aside0.mk (Kd.R_after (ok := (fun _ => True)) (RU (Kd.R_mono HO_3.out (fun _ hk => ⟨trivial, hk⟩))) hg hat); have n1_ := Aside0.mk (hb); have n2_ := Aside0.mk (ho); clear HO_3 HB HO_5; have HO_3 := n0_; have HB := n1_; have HO703 := n2_; clear n0_ n1_ n2_; clear ho hb hg hat)); try go_wp2_with (first | ((with_reducible refine gate_builtin (b := .append) (xs := #[.tmp 58, .tmp 63]) rfl ?_); at_builtin; refine Kd.R_append (Kd.int .i64) (w0 := w) w.heap.size rfl (.tmp 58) (.tmp 63) 41 2 (.int .i64 0) 8 rfl Tryz.underlying41 info2 rfl (by decide) (by omega) u5 x5_2 (rd l0 x4_1) [.int .i64 (rd l0 x4_1)] (fun k_ => some k_ ≠ (.slice Ao31 x3_1.length co31 : Value).ownBlock) (fun _ => False) rfl rfl ?aP (fun _ hk => hk.elim) ?aF ?aO ?aB ?aS ?aL ?_; (case aP => exact rfl); (case aB => exact (BU HB.out)); (case aF => exact (fun k_ hk => Kd.fresh' (Kd.R_lt (RU HO_3.out)) k_ hk)); (case aO => exact (RU HO_5.out)); (case aS => exact (below_size (BU HB.out))); (case aL => have := LMc30.out; omega); intro v702 w32 ho hb hg hat; rw [← Ny701.out] at ho; have n0_ := Aside0.mk (Kd.R_after (ok := (fun _ => True)) (RU (Kd.R_mono HO_3.out (fun _ hk => ⟨trivial, hk⟩))) hg hat); have n1_ := Aside0.mk (hb); have n2_ := Aside0.mk (ho); clear HO_3 HB HO_5; have HO_3 := n0_; have HB := n1_; have HO703 := n2_; clear n0_ n1_ n2_; clear ho hb hg hat)))
           go_roundg k2
           case measure => have := HK1.out; have := HK2.out; omega
           case rel => exact ⟨(y701), (wrap64 (x4_1 + 1)), EB, H', ⟨by have := HK1.out; have := HK2.out; omega⟩, ⟨RU (Kd.R_mono HO703.out (fun _ hk => trivial))⟩, ⟨BU HB.out⟩⟩
          ·rw [if_neg c30] at H
           exact absurd H (by simp)
         ·rw [if_neg c29] at H
          exact absurd H (by simp)
        ·rw [if_neg c28] at H
         exact absurd H (by simp)
   ·rw [if_neg c2] at H
    have c2b0 : decide (x4_1 < (l0.length : Int)) = false := decide_eq_false c2
    clear c2
    obtain rfl := Option.some.inj H
    go_wp2
    repeat (go_quiet (fail); try go_wp2)
    go_ret
    exact ⟨_, by first | rfl | (simp [errW_none, errW_some] <;> rfl) | (simp [*, errW_none, errW_some] <;> rfl), RU HO_3.out, BU HB.out⟩

/-! ### estreatref11_Width: function 61 -/
def estreatref11_Width.l0 : Nat → Int → Int → Int → Option (Int)
 | 0, _, _, _ => none
 | k + 1, x0, x3, x4 => if x4 < x0 then (estreatref11_Width.l0 k x0 (wrap64 (x3 + 1)) (wrap64 (2 * x4))) else (some x3)
def estreatref11_Width.f (k : Nat) (a0 : Int) : Option (Int) := estreatref11_Width.l0 k a0 0 1
set_option maxHeartbeats 8000000 in
set_option maxRecDepth 100000 in
theorem estreatref11_Width.calls (k : Nat) (a0 : Int) (r : Int) (w : World) (h : estreatref11_Width.f k a0 = some r) :
  Calls Tryz.prog 61 #[.int .i64 a0] w fun e w' => e = .returned (.int .i64 r) ∧ Drawn0 w w' := by
 have H : (estreatref11_Width.l0 k a0 0 1) = some r := h
 clear h
 have H' := Aside0.mk H
 clear H
 go_enter Tryz.func61, Tryz.ntmps61
 go_wp2
 go_loopg [3, 4] k (fun kq v3 v4 w' => ∃ (x3_1 : Int) (x4_1 : Int), v3 = .int .i64 x3_1 ∧ v4 = .int .i64 x4_1 ∧ Aside0 (estreatref11_Width.l0 kq a0 x3_1 x4_1 = some r) ∧ Aside0 (kq ≤ k) ∧ Drawn0 w w')
 case atStart => exact ⟨(0), (1), EB, EB, H', ⟨Nat.le_refl _⟩, by repeat (first | exact Drawn0.refl _ | apply Drawn0.step)⟩
 case round =>
  clear H'
  obtain ⟨x3_1, x4_1, rfl, rfl, HA, HK1, ⟨m1, rfl⟩⟩ := hrel
  cases gk with
  | zero => exact absurd HA.out (by simp [estreatref11_Width.l0])
  | succ k1 =>
   have H := HA.out
   clear HA
   simp only [estreatref11_Width.l0] at H
   by_cases c2 : x4_1 < a0
   ·rw [if_pos c2] at H
    have c2b0 : decide (x4_1 < a0) = true := decide_eq_true c2
    clear c2
    have H' := Aside0.mk H
    clear H
    go_wp2
    go_roundg k1
    case measure => have := HK1.out; omega
    case rel => exact ⟨(wrap64 (x3_1 + 1)), (wrap64 (2 * x4_1)), EB, EB, H', ⟨by have := HK1.out; omega⟩, by repeat (first | exact Drawn0.refl _ | apply Drawn0.step)⟩
   ·rw [if_neg c2] at H
    have c2b0 : decide (x4_1 < a0) = false := decide_eq_false c2
    clear c2
    obtain rfl := Option.some.inj H
    go_wp2
    go_ret
    exact ⟨by first | rfl | (simp; done) | (simp [*]; done), by repeat (first | exact Drawn0.refl _ | apply Drawn0.step)⟩

end Go.Proofs.YtefcchpjbojdkaaGreatDoor.PChunkPuts
