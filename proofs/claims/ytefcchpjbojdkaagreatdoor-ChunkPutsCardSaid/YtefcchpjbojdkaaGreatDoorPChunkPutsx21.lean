/- WRITTEN BY A PROGRAM of this session (wip/tool: a turned copy of the printer), out of the translation: Lean functions with the answers of the Go functions, and the proofs that the Go code comes to them. -/
import Derived.Test.YtefcchpjbojdkaaGreatDoorPChunkPutsx0
import Derived.Test.YtefcchpjbojdkaaGreatDoorPChunkPutsx16
import Derived.Test.YtefcchpjbojdkaaGreatDoorPChunkPutsx18
namespace Go.Proofs.YtefcchpjbojdkaaGreatDoor.PChunkPuts
open Go.RowKit Go.Proofs.YtefcchpjbojdkaaGreatDoorW.PrintWords Go.Proofs.YtefcchpjbojdkaaGreatDoorW.PrintLast Go.Proofs.YtefcchpjbojdkaaGreatDoorW.PrintMore
attribute [local go_sem] max2_int min2_int max_two min_two max_three min_three max_four min_four   -- for this text's walks alone
set_option linter.unusedVariables false
set_option linter.unusedSimpArgs false

/-! ### estreatref12_Put: function 30 -/
mutual
def estreatref12_Put.l0 : Nat → List Int → Int → Int → Option (List Int)
 | 0, _, _, _ => none
 | k + 1, x0, x3, x4 => if x4 < (x0.length : Int) then (if 0 ≤ x4 then (estreatref12_Put.l0 k x0 (mn x3 (rd x0 x4)) (wrap64 (x4 + 1))) else (none)) else (estreatref12_Put.l1 k x0 x3 ([] : List Int) 0)
def estreatref12_Put.l1 : Nat → List Int → Int → List Int → Int → Option (List Int)
 | 0, _, _, _, _ => none
 | k + 1, x0, x3, x5, x6 => if x6 < (x0.length : Int) then (if 0 ≤ x6 then (if x5.length < 17592186044416 then (estreatref12_Put.l1 k x0 x3 (x5 ++ [IntKind.u64.wrap ((IntKind.u64.wrap (rd x0 x6)) - (IntKind.u64.wrap (x3)))]) (wrap64 (x6 + 1))) else (none)) else (none)) else ((estreatref02_Width.f k x5).bind fun t768 => ((estreatref02_Pack.f k x5 t768).bind fun bt769 => ((estreatref01_Zig.f x3).bind fun t773 => ((estreatref01_Var.f k t773).bind fun t774 => (if t774.length < 140737488355328 then ((some (t774 ++ [(t768) % 256] : List Int)).bind fun y777 => (if y777.length + bt769.1.length < 140737488355328 then (some (y777 ++ bt769.1)) else (none))) else (none))))))
end
def estreatref12_Put.f (k : Nat) (l0 : List Int) : Option (List Int) := if (l0.length : Int) = 0 then (some ([] : List Int)) else (if 0 < (l0.length : Int) then (estreatref12_Put.l0 k l0 (rd l0 0) 0) else (none))
set_option maxHeartbeats 8000000 in
set_option maxRecDepth 100000 in
theorem estreatref12_Put.calls (k : Nat) (A0 : Option Addr) (c0 : Nat) (l0 : List Int) (r : List Int) (w : World) (hr0 : Kd.C (Kd.int .i64) w A0 l0.length l0) (hc0 : l0.length ≤ c0) (h : estreatref12_Put.f k l0 = some r) :
  Calls Tryz.prog 30 #[.slice A0 l0.length c0] w fun e w' => ∃ v0_ : Value, e = .returned (v0_) ∧ Kd.R (Kd.int .u8) 5 w' w.heap.size (fun _ => True) v0_ r ∧ Below w.heap.size w w' := by
 have HR0 := Aside0.mk hr0
 have HC0 := Aside0.mk hc0
 clear hr0 hc0
 have HB := Aside0.mk (Below.refl w.heap.size w)
 have H : (if (l0.length : Int) = 0 then (some ([] : List Int)) else (if 0 < (l0.length : Int) then (estreatref12_Put.l0 k l0 (rd l0 0) 0) else (none))) = some r := h
 clear h
 by_cases c2 : (l0.length : Int) = 0
 ·rw [if_pos c2] at H
  have c2b0 : ((l0.length : Int) == 0) = true := beq_iff_eq.mpr c2
  have c2b1 : ((l0.length : Int) != 0) = false := bne_eq_false_iff_eq.mpr c2
  clear c2
  obtain rfl := Option.some.inj H
  go_enter Tryz.func30, Tryz.ntmps30
  go_wp2
  go_ret
  exact ⟨_, by first | rfl | (simp [errW_none, errW_some] <;> rfl) | (simp [*, errW_none, errW_some] <;> rfl), by first | exact Kd.R_nil _ _ _ _ _ | exact Kd.N_nil _ _ _ _ _ | exact Kd.V_nil _ _ _ _ _ | exact Kd.Q_nil _ _ _ _ _ | exact Kd.S_nil _ _ _ _ _, BU HB.out⟩
 ·rw [if_neg c2] at H
  have c2b0 : ((l0.length : Int) == 0) = false := beq_eq_false_iff_ne.mpr c2
  have c2b1 : ((l0.length : Int) != 0) = true := bne_iff_ne.mpr c2
  have c2b2 : ¬ (l0 = []) := fun h_ => c2 (by rw [h_]; rfl)
  by_cases c3 : 0 < (l0.length : Int)
  ·rw [if_pos c3] at H
   have c3b0 : decide (0 < (l0.length : Int)) = true := decide_eq_true c3
   have c3b1 : decide (0 < l0.length) = true := decide_eq_true (by omega)
   clear c3
   have H' := Aside0.mk H
   clear H
   have p762 : 0 ≤ (0 : Int) := (by omega)
   have q762 : 0 < (l0.length : Int) := OD
   obtain ⟨ad762, e762, hx762_0⟩ := Kd.at_int HR0.out 0 p762 q762
   cases e762
   have qi762 : (0 < l0.length) = True := eq_true (by omega)
   (try rw [show ((0 : Int)).toNat = 0 from rfl] at hx762_0)
   (try rw [Addr.add_zero'] at hx762_0)
   replace p762 := eq_true p762
   replace q762 := eq_true q762
   go_enter Tryz.func30, Tryz.ntmps30
   go_wp2
   go_loopg [3, 4] k (fun kq v3 v4 w' => ∃ (x3_1 : Int) (x4_1 : Int), v3 = .int .i64 x3_1 ∧ v4 = .int .i64 x4_1 ∧ Aside0 (estreatref12_Put.l0 kq l0 x3_1 x4_1 = some r) ∧ Aside0 (kq ≤ k) ∧ Aside0 (Below w.heap.size w w'))
   case atStart => exact ⟨(rd l0 0), (0), EB, EB, H', ⟨Nat.le_refl _⟩, ⟨BU HB.out⟩⟩
   case round =>
    clear H'
    try clear c2
    try clear c2b0
    try clear c2b1
    try clear c2b2
    try clear p2
    try clear c3
    try clear c3b0
    try clear c3b1
    try clear hx762_0
    try clear p762
    try clear q762
    obtain ⟨x3_1, x4_1, rfl, rfl, HA, HK1, HB⟩ := hrel
    cases gk with
    | zero => exact absurd HA.out (by simp [estreatref12_Put.l0])
    | succ k1 =>
     have H := HA.out
     clear HA
     simp only [estreatref12_Put.l0] at H
     by_cases c4 : x4_1 < (l0.length : Int)
     ·rw [if_pos c4] at H
      have c4b0 : decide (x4_1 < (l0.length : Int)) = true := decide_eq_true c4
      clear c4
      by_cases c5 : 0 ≤ x4_1
      ·rw [if_pos c5] at H
       have c5b0 : decide (0 ≤ x4_1) = true := decide_eq_true c5
       clear c5
       obtain ⟨ji6, hji6⟩ : ∃ j_ : Int, (mn x3_1 (rd l0 x4_1)) = j_ := ⟨_, rfl⟩
       replace H : (estreatref12_Put.l0 k1 l0 ji6 (wrap64 (x4_1 + 1))) = some r := by first | (rw [hji6] at H; exact H) | (simp only [hji6] at H ⊢; exact H)
       have hji6_ : (if (rd l0 x4_1) < x3_1 then (rd l0 x4_1) else x3_1) = ji6 := hji6
       have H' := Aside0.mk H
       clear H
       have p763 : 0 ≤ (x4_1 : Int) := OD
       have q763 : x4_1 < (l0.length : Int) := OD
       obtain ⟨ad763, e763, hx763_0⟩ := Kd.at_int HR0.out x4_1 p763 q763
       obtain rfl : ad762 = ad763 := (by injection e763)
       replace hx763_0 := (HB.out.cell (World.block_lt_of_cell? w _ hx763_0)).trans hx763_0
       replace p763 := eq_true p763
       replace q763 := eq_true q763
       go_wp2
       go_roundg k1
       case measure => have := HK1.out; omega
       case rel => exact ⟨(ji6), (wrap64 (x4_1 + 1)), (by first | rfl | (simp; done) | (simp only [← hji6] <;> (first | rfl | simp)) | (simp [*]; done)), EB, H', ⟨by have := HK1.out; omega⟩, ⟨BU HB.out⟩⟩
      ·rw [if_neg c5] at H
       exact absurd H (by simp)
     ·rw [if_neg c4] at H
      have c4b0 : decide (x4_1 < (l0.length : Int)) = false := decide_eq_false c4
      clear c4
      have H' := Aside0.mk H
      clear H
      go_wp2
      go_loopg [5, 6] k1 (fun kq v5 v6 w' => ∃ (x5_2 : List Int) (x6_2 : Int), v6 = .int .i64 x6_2 ∧ Aside0 (estreatref12_Put.l1 kq l0 x3_1 x5_2 x6_2 = some r) ∧ Aside0 (kq ≤ k1) ∧ Aside0 (Kd.R (Kd.int .u64) 66 w' w.heap.size (fun _ => True) v5 x5_2) ∧ Aside0 (Below w.heap.size w w'))
      case atStart => exact ⟨(([] : List Int)), (0), EB, H', ⟨Nat.le_refl _⟩, ⟨by first | exact Kd.R_nil _ _ _ _ _ | exact Kd.N_nil _ _ _ _ _ | exact Kd.V_nil _ _ _ _ _ | exact Kd.Q_nil _ _ _ _ _ | exact Kd.S_nil _ _ _ _ _⟩, ⟨BU HB.out⟩⟩
      case round =>
       clear H'
       try clear c2
       try clear c2b0
       try clear c2b1
       try clear c2b2
       try clear p2
       try clear c3
       try clear c3b0
       try clear c3b1
       try clear c4
       try clear c4b0
       try clear c5
       try clear c5b0
       try clear p6
       try clear hx762_0
       try clear hx763_0
       try clear p2
       try clear p762
       try clear p763
       try clear q762
       try clear q763
       obtain ⟨x5_2, x6_2, rfl, HA, HK2, HO_5, HB⟩ := hrel
       cases gk with
       | zero => exact absurd HA.out (by simp [estreatref12_Put.l1])
       | succ k2 =>
        have H := HA.out
        clear HA
        simp only [estreatref12_Put.l1] at H
        by_cases c7 : x6_2 < (l0.length : Int)
        ·rw [if_pos c7] at H
         have c7b0 : decide (x6_2 < (l0.length : Int)) = true := decide_eq_true c7
         clear c7
         by_cases c8 : 0 ≤ x6_2
         ·rw [if_pos c8] at H
          have c8b0 : decide (0 ≤ x6_2) = true := decide_eq_true c8
          clear c8
          by_cases c9 : x5_2.length < 17592186044416
          ·rw [if_pos c9] at H
           have LMc9 := Aside0.mk c9
           clear c9
           obtain ⟨y765, hy765⟩ : ∃ y_ : List Int, y_ = (x5_2 ++ [IntKind.u64.wrap ((IntKind.u64.wrap (rd l0 x6_2)) - (IntKind.u64.wrap (x3_1)))]) := ⟨_, rfl⟩
           replace H : (estreatref12_Put.l1 k2 l0 x3_1 y765 (wrap64 (x6_2 + 1))) = some r := by first | (rw [hy765]; with_reducible exact H) | (have H2_ := (Option.bind_some _ _).symm.trans H; rw [hy765]; with_reducible exact H2_) | (have H2_ := (Option.bind_some _ _).symm.trans H; with_reducible exact H2_) | with_reducible exact H | (rw [hy765]; exact H) | exact H
           have Ny765 := Aside0.mk hy765
           clear hy765
           have H' := Aside0.mk H
           clear H
           have p764 : 0 ≤ (x6_2 : Int) := OD
           have q764 : x6_2 < (l0.length : Int) := OD
           obtain ⟨ad764, e764, hx764_0⟩ := Kd.at_int HR0.out x6_2 p764 q764
           obtain rfl : ad762 = ad764 := (by injection e764)
           replace hx764_0 := (HB.out.cell (World.block_lt_of_cell? w _ hx764_0)).trans hx764_0
           replace p764 := eq_true p764
           replace q764 := eq_true q764
           go_wp2_with (first | ((with_reducible refine gate_builtin (b := .append) (xs := #[.tmp 34, .tmp 43]) rfl ?_); at_builtin; refine Kd.R_append (Kd.int .u64) (w0 := w) w.heap.size rfl (.tmp 34) (.tmp 43) 68 66 (.int .u64 0) 8 rfl Tryz.underlying68 info66 rfl (by decide) (by omega) u5 x5_2 (IntKind.u64.wrap ((IntKind.u64.wrap (rd l0 x6_2)) - (IntKind.u64.wrap (x3_1)))) [.int .u64 (IntKind.u64.wrap ((IntKind.u64.wrap (rd l0 x6_2)) - (IntKind.u64.wrap (x3_1))))] (fun _ => True) (fun _ => False) rfl rfl ?aP (fun _ hk => hk.elim) ?aF ?aO ?aB ?aS ?aL ?_; (case aP => exact rfl); (case aB => exact (BU HB.out)); (case aF => exact (fun _ _ => trivial)); (case aO => exact (RU HO_5.out)); (case aS => exact (below_size (BU HB.out))); (case aL => have := LMc9.out; omega); intro v766 w10 ho hb hg hat; rw [← Ny765.out] at ho; have n0_ := Aside0.mk (hb); have n1_ := Aside0.mk (ho); clear HB HO_5; have HB := n0_; have HO767 := n1_; clear n0_ n1_; clear ho hb hg hat))
           go_roundg k2
           case measure => have := HK1.out; have := HK2.out; omega
           case rel => exact ⟨(y765), (wrap64 (x6_2 + 1)), EB, H', ⟨by have := HK1.out; have := HK2.out; omega⟩, ⟨RU HO767.out⟩, ⟨BU HB.out⟩⟩
          ·rw [if_neg c9] at H
           exact absurd H (by simp)
         ·rw [if_neg c8] at H
          exact absurd H (by simp)
        ·rw [if_neg c7] at H
         have c7b0 : decide (x6_2 < (l0.length : Int)) = false := decide_eq_false c7
         clear c7
         replace H := Option.bind_eq_some_iff.mp H
         obtain ⟨t768, A110, H⟩ := H
         replace H : ((estreatref02_Pack.f k2 x5_2 t768).bind fun bt769 => ((estreatref01_Zig.f x3_1).bind fun t773 => ((estreatref01_Var.f k2 t773).bind fun t774 => (if t774.length < 140737488355328 then ((some (t774 ++ [(t768) % 256] : List Int)).bind fun y777 => (if y777.length + bt769.1.length < 140737488355328 then (some (y777 ++ bt769.1)) else (none))) else (none))))) = some r := H
         have A11 := Aside0.mk A110
         clear A110
         replace H := Option.bind_eq_some_iff.mp H
         obtain ⟨⟨t769, t770⟩, A120, H⟩ := H
         replace H : ((estreatref01_Zig.f x3_1).bind fun t773 => ((estreatref01_Var.f k2 t773).bind fun t774 => (if t774.length < 140737488355328 then ((some (t774 ++ [(t768) % 256] : List Int)).bind fun y777 => (if y777.length + t769.length < 140737488355328 then (some (y777 ++ t769)) else (none))) else (none)))) = some r := H
         have A12 := Aside0.mk A120
         clear A120
         replace H := Option.bind_eq_some_iff.mp H
         obtain ⟨t773, A130, H⟩ := H
         replace H : ((estreatref01_Var.f k2 t773).bind fun t774 => (if t774.length < 140737488355328 then ((some (t774 ++ [(t768) % 256] : List Int)).bind fun y777 => (if y777.length + t769.length < 140737488355328 then (some (y777 ++ t769)) else (none))) else (none))) = some r := H
         have A13 := Aside0.mk A130
         clear A130
         replace H := Option.bind_eq_some_iff.mp H
         obtain ⟨t774, A140, H⟩ := H
         replace H : (if t774.length < 140737488355328 then ((some (t774 ++ [(t768) % 256] : List Int)).bind fun y777 => (if y777.length + t769.length < 140737488355328 then (some (y777 ++ t769)) else (none))) else (none)) = some r := H
         have A14 := Aside0.mk A140
         clear A140
         by_cases c15 : t774.length < 140737488355328
         ·rw [if_pos c15] at H
          have LMc15 := Aside0.mk c15
          clear c15
          obtain ⟨y777, hy777⟩ : ∃ y_ : List Int, y_ = (t774 ++ [(t768) % 256]) := ⟨_, rfl⟩
          replace H : (if y777.length + t769.length < 140737488355328 then (some (y777 ++ t769)) else (none)) = some r := by first | (rw [hy777]; with_reducible exact H) | (have H2_ := (Option.bind_some _ _).symm.trans H; rw [hy777]; with_reducible exact H2_) | (have H2_ := (Option.bind_some _ _).symm.trans H; with_reducible exact H2_) | with_reducible exact H | (rw [hy777]; exact H) | exact H
          have Ny777 := Aside0.mk hy777
          clear hy777
          by_cases c16 : y777.length + t769.length < 140737488355328
          ·rw [if_pos c16] at H
           have LMc16 := Aside0.mk c16
           clear c16
           obtain ⟨y780, hy780⟩ : ∃ y_ : List Int, y_ = (y777 ++ t769) := ⟨_, rfl⟩
           replace H : (some y780) = some r := by first | (rw [hy780]; with_reducible exact H) | (have H2_ := (Option.bind_some _ _).symm.trans H; rw [hy780]; with_reducible exact H2_) | (have H2_ := (Option.bind_some _ _).symm.trans H; with_reducible exact H2_) | with_reducible exact H | (rw [hy780]; exact H) | exact H
           have Ny780 := Aside0.mk hy780
           clear hy780
           obtain rfl := Option.some.inj H
           obtain ⟨Ao17, co17, eo17⟩ := Kd.R_slice HO_5.out
           subst eo17
           go_wp2_with (first | ((with_reducible refine gate_callee (f := 58) rfl ?_); refine goesL_ (some 46) rfl rfl Tryz.func58 (by kernel_rfl) rfl #[.slice Ao17 x5_2.length co17] rfl EA ?_; (with_reducible refine (estreatref02_Width.calls k2 _ _ x5_2 t768 _ ?side1 ?side2 A11.out).mono ?_); (case side1 => exact CU ((Kd.R_reads' HO_5.out).2.2)); (case side2 => exact (Kd.R_reads' HO_5.out).2.1); rintro e w18 ⟨rfl, hb⟩; refine ⟨_, rfl, ?_⟩; have n0_ := Aside0.mk (Kd.R_below (RU HO_5.out) hb); have n1_ := Aside0.mk (below_step (BU HB.out) hb); clear HO_5 HB; have HO_5 := n0_; have HB := n1_; clear n0_ n1_; (try clear hb); (try clear hb2); (try clear hk); (try clear hi)) | ((with_reducible refine gate_callee (f := 59) rfl ?_); refine goesL_ (some 50) rfl rfl Tryz.func59 (by kernel_rfl) rfl #[.slice Ao17 x5_2.length co17, .int .i64 t768] rfl EA ?_; (with_reducible refine (estreatref02_Pack.calls k2 _ _ x5_2 t768 t769 t770 _ ?side1 ?side2 A12.out).mono ?_); (case side1 => exact CU ((Kd.R_reads' HO_5.out).2.2)); (case side2 => exact (Kd.R_reads' HO_5.out).2.1); rintro e w19 ⟨v771, rfl, ho0, hb⟩; refine ⟨_, rfl, ?_⟩; have n0_ := Aside0.mk (Kd.R_below (RU HO_5.out) hb); have n1_ := Aside0.mk (Kd.R_lower ho0 (below_size (BU HB.out))); have n2_ := Aside0.mk (below_step (BU HB.out) hb); clear HO_5 HB; have HO_5 := n0_; have HO772 := n1_; have HB := n2_; clear n0_ n1_ n2_; (try clear hb); (try clear hb2); (try clear hk); (try clear hi); (try clear ho0)) | ((with_reducible refine gate_callee (f := 55) rfl ?_); refine goesL_ (some 54) rfl rfl Tryz.func55 (by kernel_rfl) rfl #[.int .i64 x3_1] rfl EA ?_; (with_reducible refine (estreatref01_Zig.calls x3_1 t773 _ A13.out).mono ?_); rintro e w' ⟨rfl, ⟨nd, rfl⟩⟩; refine ⟨_, rfl, ?_⟩) | ((with_reducible refine gate_callee (f := 54) rfl ?_); refine goesL_ (some 55) rfl rfl Tryz.func54 (by kernel_rfl) rfl #[.int .u64 t773] rfl EA ?_; (with_reducible refine (estreatref01_Var.calls k2 t773 t774 _ A14.out).mono ?_); rintro e w20 ⟨v775, rfl, ho0, hb⟩; refine ⟨_, rfl, ?_⟩; have n0_ := Aside0.mk (Kd.R_below (RU HO_5.out) hb); have n1_ := Aside0.mk (Kd.R_elder' (RU HO772.out) (Kd.R_base ho0) hb); have n2_ := Aside0.mk (Kd.R_lower (Kd.R_new' ho0 (Kd.R_lt (RU HO772.out))) (below_size (BU HB.out))); have n3_ := Aside0.mk (below_step (BU HB.out) hb); clear HO_5 HO772 HB; have HO_5 := n0_; have HO772 := n1_; have HO776 := n2_; have HB := n3_; clear n0_ n1_ n2_ n3_; (try clear hb); (try clear hb2); (try clear hk); (try clear hi); (try clear ho0)) | ((with_reducible refine gate_builtin (b := .append) (xs := #[.tmp 55, .tmp 58]) rfl ?_); at_builtin; refine Kd.R_append (Kd.int .u8) (w0 := w) w.heap.size rfl (.tmp 55) (.tmp 58) 25 5 (.int .u8 0) 1 rfl Tryz.underlying25 info5 rfl (by decide) (by omega) v775 t774 ((t768) % 256) [.int .u8 ((t768) % 256)] (fun k_ => some k_ ≠ (v771 : Value).ownBlock) (fun _ => False) rfl rfl ?aP (fun _ hk => hk.elim) ?aF ?aO ?aB ?aS ?aL ?_; (case aP => exact rfl); (case aB => exact (BU HB.out)); (case aF => exact (fun k_ hk => Kd.fresh' (Kd.R_lt (RU HO772.out)) k_ hk)); (case aO => exact (RU (Kd.R_mono HO776.out (fun _ hk => hk.2)))); (case aS => exact (below_size (BU HB.out))); (case aL => have := LMc15.out; omega); intro v778 w21 ho hb hg hat; rw [← Ny777.out] at ho; have n0_ := Aside0.mk (Kd.R_over' (RU HO_5.out) (Kd.R_typed (RU HO776.out)) (by decide) hg); have n1_ := Aside0.mk (Kd.R_after (ok := (fun _ => True)) (RU HO772.out) hg hat); have n2_ := Aside0.mk (hb); have n3_ := Aside0.mk (ho); clear HO_5 HO772 HB HO776; have HO_5 := n0_; have HO772 := n1_; have HB := n2_; have HO779 := n3_; clear n0_ n1_ n2_ n3_; clear ho hb hg hat; obtain ⟨Ao23, co23, eo23⟩ := Kd.R_slice HO772.out; subst eo23) | ((with_reducible refine gate_builtin (b := .append) (xs := #[.tmp 59, .tmp 60]) rfl ?_); at_builtin; refine Kd.R_append_rows (Kd.int .u8) (w0 := w) w.heap.size rfl (.tmp 59) (.tmp 60) 25 5 (.int .u8 0) 1 rfl Tryz.underlying25 info5 rfl (by decide) (by omega) v778 y777 t769 _ _ _ (fun k_ => some k_ ≠ (.slice Ao23 t769.length co23 : Value).ownBlock) (fun _ => False) rfl rfl ?aO ?aR (fun _ _ h => h) (fun _ h => h.elim) ?aF ?aB ?aS ?aL ?_; (case aR => exact CU ((Kd.R_reads' HO772.out).2.2)); (case aB => exact (BU HB.out)); (case aF => exact (fun k_ hk => Kd.fresh' (Kd.R_lt (RU HO772.out)) k_ hk)); (case aO => exact (RU HO779.out)); (case aS => exact (below_size (BU HB.out))); (case aL => have := LMc16.out; omega); intro v781 w22 ho hb hg hat; rw [← Ny780.out] at ho; have n0_ := Aside0.mk (Kd.R_over' (RU HO_5.out) (Kd.R_typed (RU HO779.out)) (by decide) hg); have n1_ := Aside0.mk (Kd.R_after (ok := (fun _ => True)) (RU HO772.out) hg hat); have n2_ := Aside0.mk (hb); have n3_ := Aside0.mk (ho); clear HO_5 HO772 HB HO779; have HO_5 := n0_; have HO772 := n1_; have HB := n2_; have HO782 := n3_; clear n0_ n1_ n2_ n3_; clear ho hb hg hat))
           go_ret
           exact ⟨_, by first | rfl | (simp [errW_none, errW_some] <;> rfl) | (simp [*, errW_none, errW_some] <;> rfl), RU (Kd.R_mono HO782.out (fun _ hk => trivial)), BU HB.out⟩
          ·rw [if_neg c16] at H
           exact absurd H (by simp)
         ·rw [if_neg c15] at H
          exact absurd H (by simp)
  ·rw [if_neg c3] at H
   exact absurd H (by simp)

/-! ### estreatref13_Place: function 64 -/
def estreatref13_Place.l0 : Nat → List ByteArray → ByteArray → Int → Option (Int × Bool)
 | 0, _, _, _ => none
 | k + 1, x0, x1, x6 => if x6 < (x0.length : Int) then (if 0 ≤ x6 then (if (Op.bytesLess ((rdOf ByteArray.empty x0 x6).toList) x1.toList) = true then (estreatref13_Place.l0 k x0 x1 (wrap64 (x6 + 1))) else (some (x6, ((rdOf ByteArray.empty x0 x6).toList == x1.toList)))) else (none)) else (some (x6, false))
def estreatref13_Place.f (k : Nat) (l0 : List ByteArray) (a1 : ByteArray) : Option (Int × Bool) := estreatref13_Place.l0 k l0 a1 0
set_option maxHeartbeats 8000000 in
set_option maxRecDepth 100000 in
theorem estreatref13_Place.calls (k : Nat) (A0 : Option Addr) (c0 : Nat) (l0 : List ByteArray) (a1 : ByteArray) (r1 : Int) (r2 : Bool) (w : World) (hr0 : Kd.C Kd.string w A0 l0.length l0) (hc0 : l0.length ≤ c0) (h : estreatref13_Place.f k l0 a1 = some (r1, r2)) :
  Calls Tryz.prog 64 #[.slice A0 l0.length c0, .string a1] w fun e w' => e = .returned (.tuple #[.int .i64 r1, .bool r2]) ∧ Drawn0 w w' := by
 have HR0 := Aside0.mk hr0
 have HC0 := Aside0.mk hc0
 clear hr0 hc0
 have H : (estreatref13_Place.l0 k l0 a1 0) = some (r1, r2) := h
 clear h
 have H' := Aside0.mk H
 clear H
 go_enter Tryz.func64, Tryz.ntmps64
 go_wp2
 repeat (go_quiet (fail); try go_wp2)
 go_loopg [6] k (fun kq v6 w' => ∃ (x6_1 : Int), v6 = .int .i64 x6_1 ∧ Aside0 (estreatref13_Place.l0 kq l0 a1 x6_1 = some (r1, r2)) ∧ Aside0 (kq ≤ k) ∧ Drawn0 w w')
 case atStart => exact ⟨(0), EB, H', ⟨Nat.le_refl _⟩, by repeat (first | exact Drawn0.refl _ | apply Drawn0.step)⟩
 case round =>
  clear H'
  try clear p2
  obtain ⟨x6_1, rfl, HA, HK1, ⟨m1, rfl⟩⟩ := hrel
  cases gk with
  | zero => exact absurd HA.out (by simp [estreatref13_Place.l0])
  | succ k1 =>
   have H := HA.out
   clear HA
   simp only [estreatref13_Place.l0] at H
   by_cases c3 : x6_1 < (l0.length : Int)
   ·rw [if_pos c3] at H
    have c3b0 : decide (x6_1 < (l0.length : Int)) = true := decide_eq_true c3
    clear c3
    by_cases c4 : 0 ≤ x6_1
    ·rw [if_pos c4] at H
     have c4b0 : decide (0 ≤ x6_1) = true := decide_eq_true c4
     clear c4
     by_cases c5 : (Op.bytesLess ((rdOf ByteArray.empty l0 x6_1).toList) a1.toList) = true
     ·rw [if_pos c5] at H
      have c5b0 : (Op.bytesLess ((rdOf ByteArray.empty l0 x6_1).toList) a1.toList) = true := c5
      clear c5
      have H' := Aside0.mk H
      clear H
      have p783 : 0 ≤ (x6_1 : Int) := OD
      have q783 : x6_1 < (l0.length : Int) := OD
      obtain ⟨ad783, e783, hx783_0⟩ := Kd.at_string HR0.out x6_1 p783 q783
      cases e783
      replace p783 := eq_true p783
      replace q783 := eq_true q783
      go_wp2
      repeat (go_quiet (fail); try go_wp2)
      go_roundg k1
      case measure => have := HK1.out; omega
      case rel => exact ⟨(wrap64 (x6_1 + 1)), EB, H', ⟨by have := HK1.out; omega⟩, by repeat (first | exact Drawn0.refl _ | apply Drawn0.step)⟩
     ·rw [if_neg c5] at H
      have c5b0 : (Op.bytesLess ((rdOf ByteArray.empty l0 x6_1).toList) a1.toList) = false := by simpa using c5
      clear c5
      simp only [Option.some.injEq, Prod.mk.injEq] at H
      obtain ⟨rfl, rfl⟩ := H
      have p783 : 0 ≤ (x6_1 : Int) := OD
      have q783 : x6_1 < (l0.length : Int) := OD
      obtain ⟨ad783, e783, hx783_0⟩ := Kd.at_string HR0.out x6_1 p783 q783
      cases e783
      replace p783 := eq_true p783
      replace q783 := eq_true q783
      have p784 : 0 ≤ (x6_1 : Int) := OD
      have q784 : x6_1 < (l0.length : Int) := OD
      obtain ⟨ad784, e784, hx784_0⟩ := Kd.at_string HR0.out x6_1 p784 q784
      obtain rfl : ad783 = ad784 := (by injection e784)
      replace p784 := eq_true p784
      replace q784 := eq_true q784
      go_wp2
      repeat (go_quiet (fail); try go_wp2)
      go_ret2
      exact ⟨by first | rfl | (simp; done) | (simp [*]; done), by repeat (first | exact Drawn0.refl _ | apply Drawn0.step)⟩
    ·rw [if_neg c4] at H
     exact absurd H (by simp)
   ·rw [if_neg c3] at H
    have c3b0 : decide (x6_1 < (l0.length : Int)) = false := decide_eq_false c3
    clear c3
    simp only [Option.some.injEq, Prod.mk.injEq] at H
    obtain ⟨rfl, rfl⟩ := H
    go_wp2
    repeat (go_quiet (fail); try go_wp2)
    go_ret2
    exact ⟨by first | rfl | (simp; done) | (simp [*]; done), by repeat (first | exact Drawn0.refl _ | apply Drawn0.step)⟩

/-! ### estreatref13_List: function 62 -/
def estreatref13_List.l0 : Nat → List ByteArray → List ByteArray → Int → Option (List ByteArray)
 | 0, _, _, _ => none
 | k + 1, x0, x3, x4 => if x4 < (x0.length : Int) then (if 0 ≤ x4 then ((estreatref13_Place.f k x3 (rdOf ByteArray.empty x0 x4)).bind fun bt786 => (if bt786.2 = true then (estreatref13_List.l0 k x0 x3 (wrap64 (x4 + 1))) else ((some (([] : List ByteArray) : List ByteArray)).bind fun y788 => (if 0 ≤ bt786.1 then (if bt786.1 ≤ (x3.length : Int) then ((some (x3.take (bt786.1 : Int).toNat : List ByteArray)).bind fun y791 => (if y788.length + y791.length < 8796093022208 then ((some (y788 ++ y791 : List ByteArray)).bind fun y795 => (if y795.length < 8796093022208 then ((some (y795 ++ [rdOf ByteArray.empty x0 x4] : List ByteArray)).bind fun y799 => ((some (x3.drop (bt786.1 : Int).toNat : List ByteArray)).bind fun y802 => (if y799.length + y802.length < 8796093022208 then (estreatref13_List.l0 k x0 (y799 ++ y802) (wrap64 (x4 + 1))) else (none)))) else (none))) else (none))) else (none)) else (none))))) else (none)) else (some x3)
def estreatref13_List.f (k : Nat) (l0 : List ByteArray) : Option (List ByteArray) := estreatref13_List.l0 k l0 ([] : List ByteArray) 0
set_option maxHeartbeats 8000000 in
set_option maxRecDepth 100000 in
theorem estreatref13_List.calls (k : Nat) (A0 : Option Addr) (c0 : Nat) (l0 : List ByteArray) (r : List ByteArray) (w : World) (hr0 : Kd.C Kd.string w A0 l0.length l0) (hc0 : l0.length ≤ c0) (h : estreatref13_List.f k l0 = some r) :
  Calls Tryz.prog 62 #[.slice A0 l0.length c0] w fun e w' => ∃ v0_ : Value, e = .returned (v0_) ∧ Kd.R Kd.string 9 w' w.heap.size (fun _ => True) v0_ r ∧ Below w.heap.size w w' := by
 have HR0 := Aside0.mk hr0
 have HC0 := Aside0.mk hc0
 clear hr0 hc0
 have HB := Aside0.mk (Below.refl w.heap.size w)
 have H : (estreatref13_List.l0 k l0 ([] : List ByteArray) 0) = some r := h
 clear h
 have H' := Aside0.mk H
 clear H
 go_enter Tryz.func62, Tryz.ntmps62
 go_wp2
 go_loopg [3, 4] k (fun kq v3 v4 w' => ∃ (x3_1 : List ByteArray) (x4_1 : Int), v4 = .int .i64 x4_1 ∧ Aside0 (estreatref13_List.l0 kq l0 x3_1 x4_1 = some r) ∧ Aside0 (kq ≤ k) ∧ Aside0 (Kd.R Kd.string 9 w' w.heap.size (fun _ => True) v3 x3_1) ∧ Aside0 (Below w.heap.size w w'))
 case atStart => exact ⟨(([] : List ByteArray)), (0), EB, H', ⟨Nat.le_refl _⟩, ⟨by first | exact Kd.R_nil _ _ _ _ _ | exact Kd.N_nil _ _ _ _ _ | exact Kd.V_nil _ _ _ _ _ | exact Kd.Q_nil _ _ _ _ _ | exact Kd.S_nil _ _ _ _ _⟩, ⟨BU HB.out⟩⟩
 case round =>
  clear H'
  obtain ⟨x3_1, x4_1, rfl, HA, HK1, HO_3, HB⟩ := hrel
  cases gk with
  | zero => exact absurd HA.out (by simp [estreatref13_List.l0])
  | succ k1 =>
   have H := HA.out
   clear HA
   simp only [estreatref13_List.l0] at H
   by_cases c2 : x4_1 < (l0.length : Int)
   ·rw [if_pos c2] at H
    have c2b0 : decide (x4_1 < (l0.length : Int)) = true := decide_eq_true c2
    clear c2
    by_cases c3 : 0 ≤ x4_1
    ·rw [if_pos c3] at H
     have c3b0 : decide (0 ≤ x4_1) = true := decide_eq_true c3
     clear c3
     replace H := Option.bind_eq_some_iff.mp H
     obtain ⟨⟨t786, t787⟩, A40, H⟩ := H
     replace H : (if t787 = true then (estreatref13_List.l0 k1 l0 x3_1 (wrap64 (x4_1 + 1))) else ((some (([] : List ByteArray) : List ByteArray)).bind fun y788 => (if 0 ≤ t786 then (if t786 ≤ (x3_1.length : Int) then ((some (x3_1.take (t786 : Int).toNat : List ByteArray)).bind fun y791 => (if y788.length + y791.length < 8796093022208 then ((some (y788 ++ y791 : List ByteArray)).bind fun y795 => (if y795.length < 8796093022208 then ((some (y795 ++ [rdOf ByteArray.empty l0 x4_1] : List ByteArray)).bind fun y799 => ((some (x3_1.drop (t786 : Int).toNat : List ByteArray)).bind fun y802 => (if y799.length + y802.length < 8796093022208 then (estreatref13_List.l0 k1 l0 (y799 ++ y802) (wrap64 (x4_1 + 1))) else (none)))) else (none))) else (none))) else (none)) else (none)))) = some r := H
     have A4 := Aside0.mk A40
     clear A40
     by_cases c5 : t787 = true
     ·subst c5
      have H1 : (estreatref13_List.l0 k1 l0 x3_1 (wrap64 (x4_1 + 1))) = some r := by rw [if_pos rfl] at H; exact H
      clear H
      have H := H1
      clear H1
      have H' := Aside0.mk H
      clear H
      have p785 : 0 ≤ (x4_1 : Int) := OD
      have q785 : x4_1 < (l0.length : Int) := OD
      obtain ⟨ad785, e785, hx785_0⟩ := Kd.at_string HR0.out x4_1 p785 q785
      cases e785
      replace hx785_0 := (HB.out.cell (World.block_lt_of_cell? w _ hx785_0)).trans hx785_0
      replace p785 := eq_true p785
      replace q785 := eq_true q785
      obtain ⟨Ao6, co6, eo6⟩ := Kd.R_slice HO_3.out
      subst eo6
      go_wp2_with (first | ((with_reducible refine gate_callee (f := 64) rfl ?_); refine goesL_ (some 20) rfl rfl Tryz.func64 (by kernel_rfl) rfl #[.slice Ao6 x3_1.length co6, .string (rdOf ByteArray.empty l0 x4_1)] rfl EA ?_; (with_reducible refine (estreatref13_Place.calls k1 _ _ x3_1 (rdOf ByteArray.empty l0 x4_1) t786 true _ ?side1 ?side2 A4.out).mono ?_); (case side1 => exact CU ((Kd.R_reads' HO_3.out).2.2)); (case side2 => exact (Kd.R_reads' HO_3.out).2.1); rintro e w' ⟨rfl, ⟨nd, rfl⟩⟩; refine ⟨_, rfl, ?_⟩))
      go_roundg k1
      case measure => have := HK1.out; omega
      case rel => exact ⟨(x3_1), (wrap64 (x4_1 + 1)), EB, H', ⟨by have := HK1.out; omega⟩, ⟨RU HO_3.out⟩, ⟨BU HB.out⟩⟩
     ·replace c5 := Bool.eq_false_iff.mpr c5
      subst c5
      have H1 : ((some (([] : List ByteArray) : List ByteArray)).bind fun y788 => (if 0 ≤ t786 then (if t786 ≤ (x3_1.length : Int) then ((some (x3_1.take (t786 : Int).toNat : List ByteArray)).bind fun y791 => (if y788.length + y791.length < 8796093022208 then ((some (y788 ++ y791 : List ByteArray)).bind fun y795 => (if y795.length < 8796093022208 then ((some (y795 ++ [rdOf ByteArray.empty l0 x4_1] : List ByteArray)).bind fun y799 => ((some (x3_1.drop (t786 : Int).toNat : List ByteArray)).bind fun y802 => (if y799.length + y802.length < 8796093022208 then (estreatref13_List.l0 k1 l0 (y799 ++ y802) (wrap64 (x4_1 + 1))) else (none)))) else (none))) else (none))) else (none)) else (none))) = some r := by rw [if_neg (show ¬ (false = true) by decide)] at H; exact H
      clear H
      have H := H1
      clear H1
      obtain ⟨y788, hy788⟩ : ∃ y_ : List ByteArray, y_ = (([] : List ByteArray)) := ⟨_, rfl⟩
      replace H : (if 0 ≤ t786 then (if t786 ≤ (x3_1.length : Int) then ((some (x3_1.take (t786 : Int).toNat : List ByteArray)).bind fun y791 => (if y788.length + y791.length < 8796093022208 then ((some (y788 ++ y791 : List ByteArray)).bind fun y795 => (if y795.length < 8796093022208 then ((some (y795 ++ [rdOf ByteArray.empty l0 x4_1] : List ByteArray)).bind fun y799 => ((some (x3_1.drop (t786 : Int).toNat : List ByteArray)).bind fun y802 => (if y799.length + y802.length < 8796093022208 then (estreatref13_List.l0 k1 l0 (y799 ++ y802) (wrap64 (x4_1 + 1))) else (none)))) else (none))) else (none))) else (none)) else (none)) = some r := by first | (rw [hy788]; with_reducible exact H) | (have H2_ := (Option.bind_some _ _).symm.trans H; rw [hy788]; with_reducible exact H2_) | (have H2_ := (Option.bind_some _ _).symm.trans H; with_reducible exact H2_) | with_reducible exact H | (rw [hy788]; exact H) | exact H
      have Ny788 := Aside0.mk hy788
      clear hy788
      by_cases c7 : 0 ≤ t786
      ·rw [if_pos c7] at H
       have c7b0 := eq_true c7
       have c7b1 : decide (0 ≤ t786) = true := decide_eq_true c7
       clear c7
       by_cases c8 : t786 ≤ (x3_1.length : Int)
       ·rw [if_pos c8] at H
        have c8b0 := eq_true c8
        have c8b1 : decide (t786 ≤ (x3_1.length : Int)) = true := decide_eq_true c8
        clear c8
        obtain ⟨y791, hy791⟩ : ∃ y_ : List ByteArray, y_ = (x3_1.take (t786 : Int).toNat) := ⟨_, rfl⟩
        replace H : (if y788.length + y791.length < 8796093022208 then ((some (y788 ++ y791 : List ByteArray)).bind fun y795 => (if y795.length < 8796093022208 then ((some (y795 ++ [rdOf ByteArray.empty l0 x4_1] : List ByteArray)).bind fun y799 => ((some (x3_1.drop (t786 : Int).toNat : List ByteArray)).bind fun y802 => (if y799.length + y802.length < 8796093022208 then (estreatref13_List.l0 k1 l0 (y799 ++ y802) (wrap64 (x4_1 + 1))) else (none)))) else (none))) else (none)) = some r := by first | (rw [hy791]; with_reducible exact H) | (have H2_ := (Option.bind_some _ _).symm.trans H; rw [hy791]; with_reducible exact H2_) | (have H2_ := (Option.bind_some _ _).symm.trans H; with_reducible exact H2_) | with_reducible exact H | (rw [hy791]; exact H) | exact H
        have Ny791 := Aside0.mk hy791
        clear hy791
        by_cases c9 : y788.length + y791.length < 8796093022208
        ·rw [if_pos c9] at H
         have LMc9 := Aside0.mk c9
         clear c9
         obtain ⟨y795, hy795⟩ : ∃ y_ : List ByteArray, y_ = (y788 ++ y791) := ⟨_, rfl⟩
         replace H : (if y795.length < 8796093022208 then ((some (y795 ++ [rdOf ByteArray.empty l0 x4_1] : List ByteArray)).bind fun y799 => ((some (x3_1.drop (t786 : Int).toNat : List ByteArray)).bind fun y802 => (if y799.length + y802.length < 8796093022208 then (estreatref13_List.l0 k1 l0 (y799 ++ y802) (wrap64 (x4_1 + 1))) else (none)))) else (none)) = some r := by first | (rw [hy795]; with_reducible exact H) | (have H2_ := (Option.bind_some _ _).symm.trans H; rw [hy795]; with_reducible exact H2_) | (have H2_ := (Option.bind_some _ _).symm.trans H; with_reducible exact H2_) | with_reducible exact H | (rw [hy795]; exact H) | exact H
         have Ny795 := Aside0.mk hy795
         clear hy795
         by_cases c10 : y795.length < 8796093022208
         ·rw [if_pos c10] at H
          have LMc10 := Aside0.mk c10
          clear c10
          obtain ⟨y799, hy799⟩ : ∃ y_ : List ByteArray, y_ = (y795 ++ [rdOf ByteArray.empty l0 x4_1]) := ⟨_, rfl⟩
          replace H : ((some (x3_1.drop (t786 : Int).toNat : List ByteArray)).bind fun y802 => (if y799.length + y802.length < 8796093022208 then (estreatref13_List.l0 k1 l0 (y799 ++ y802) (wrap64 (x4_1 + 1))) else (none))) = some r := by first | (rw [hy799]; with_reducible exact H) | (have H2_ := (Option.bind_some _ _).symm.trans H; rw [hy799]; with_reducible exact H2_) | (have H2_ := (Option.bind_some _ _).symm.trans H; with_reducible exact H2_) | with_reducible exact H | (rw [hy799]; exact H) | exact H
          have Ny799 := Aside0.mk hy799
          clear hy799
          have c11b0 := eq_true (OD : 0 ≤ t786)
          have c12b0 := eq_true (OD : t786 ≤ (x3_1.length : Int))
          obtain ⟨y802, hy802⟩ : ∃ y_ : List ByteArray, y_ = (x3_1.drop (t786 : Int).toNat) := ⟨_, rfl⟩
          replace H : (if y799.length + y802.length < 8796093022208 then (estreatref13_List.l0 k1 l0 (y799 ++ y802) (wrap64 (x4_1 + 1))) else (none)) = some r := by first | (rw [hy802]; with_reducible exact H) | (have H2_ := (Option.bind_some _ _).symm.trans H; rw [hy802]; with_reducible exact H2_) | (have H2_ := (Option.bind_some _ _).symm.trans H; with_reducible exact H2_) | with_reducible exact H | (rw [hy802]; exact H) | exact H
          have Ny802 := Aside0.mk hy802
          clear hy802
          by_cases c13 : y799.length + y802.length < 8796093022208
          ·rw [if_pos c13] at H
           have LMc13 := Aside0.mk c13
           clear c13
           obtain ⟨y806, hy806⟩ : ∃ y_ : List ByteArray, y_ = (y799 ++ y802) := ⟨_, rfl⟩
           replace H : (estreatref13_List.l0 k1 l0 y806 (wrap64 (x4_1 + 1))) = some r := by first | (rw [hy806]; with_reducible exact H) | (have H2_ := (Option.bind_some _ _).symm.trans H; rw [hy806]; with_reducible exact H2_) | (have H2_ := (Option.bind_some _ _).symm.trans H; with_reducible exact H2_) | with_reducible exact H | (rw [hy806]; exact H) | exact H
           have Ny806 := Aside0.mk hy806
           clear hy806
           have H' := Aside0.mk H
           clear H
           have p785 : 0 ≤ (x4_1 : Int) := OD
           have q785 : x4_1 < (l0.length : Int) := OD
           obtain ⟨ad785, e785, hx785_0⟩ := Kd.at_string HR0.out x4_1 p785 q785
           cases e785
           replace hx785_0 := (HB.out.cell (World.block_lt_of_cell? w _ hx785_0)).trans hx785_0
           replace p785 := eq_true p785
           replace q785 := eq_true q785
           obtain ⟨Ao14, co14, eo14⟩ := Kd.R_slice HO_3.out
           subst eo14
           go_wp2_with (first | ((with_reducible refine gate_callee (f := 64) rfl ?_); refine goesL_ (some 20) rfl rfl Tryz.func64 (by kernel_rfl) rfl #[.slice Ao14 x3_1.length co14, .string (rdOf ByteArray.empty l0 x4_1)] rfl EA ?_; (with_reducible refine (estreatref13_Place.calls k1 _ _ x3_1 (rdOf ByteArray.empty l0 x4_1) t786 false _ ?side1 ?side2 A4.out).mono ?_); (case side1 => exact CU ((Kd.R_reads' HO_3.out).2.2)); (case side2 => exact (Kd.R_reads' HO_3.out).2.1); rintro e w' ⟨rfl, ⟨nd, rfl⟩⟩; refine ⟨_, rfl, ?_⟩) | ((with_reducible refine gate_dst (N := 25) rfl ?_); refine Kd.R_lit Kd.string _ 9 ?hg (N := 25) ?hd (xs := ([] : List ByteArray)) (inner := []) (ok := fun _ => True) (okp := fun _ => True) ?hr ?hp (fun _ hk => hk) trivial (Below.refl _ _) (Nat.le_refl _) (by simp) ?_; (case hd => rfl); (case hg => rfl); (case hr => first | (go_simp; done) | (go_simp; rfl)); (case hp => exact (Reps.none _ _)); intro v789 w15 ho16 hb hg_ hnew_; clear hg_ hnew_; (first | rw [← Ny788.out] at ho16 | (simp only [Int.reduceToNat] at ho16; rw [← Ny788.out] at ho16)); have n0_ := Aside0.mk (Kd.R_elder' (RU HO_3.out) (Kd.R_base ho16) hb); have n1_ := Aside0.mk (Kd.R_lower (Kd.R_new' ho16 (Kd.R_lt (RU HO_3.out))) (below_size (BU HB.out))); have n2_ := Aside0.mk (below_step (BU HB.out) hb); clear HO_3 HB; have HO_3 := n0_; have HO790 := n1_; have HB := n2_; clear n0_ n1_ n2_; clear hb ho16; have q17 : (t786 : Int) ≤ ((x3_1.length : Int) : Int) := OD; obtain ⟨i017, hi017, _, hsz17, _⟩ := info_parts info9; have hroom17 : x3_1.length ≤ co14 := (Kd.R_reads' HO_3.out).2.1; have hC17 : Kd.C Kd.string _ Ao14 x3_1.length x3_1 := (Kd.R_reads' HO_3.out).2.2; have hcut17 := cut_to (P := Tryz.prog) 42 9 .i64 Tryz.underlying42 hi017 Ao14 x3_1.length co14 t786 (OD) q17 hroom17; have hr17 := Kd.C_take (m := (t786 : Int).toNat) hC17 (by omega); have hy17 : y791.length = (t786 : Int).toNat := (by rw [Ny791.out, List.length_take]; omega); rw [← Ny791.out] at hr17; rw [← hy17] at hcut17; have HR794 := Aside0.mk hr17; have HC794 := Aside0.mk (show y791.length ≤ co14 from by omega); clear hr17 hC17 hroom17 hi017 hsz17; have KY17 := Aside0.mk hy17; clear hy17; have KL17 := Aside0.mk (show (t786 : Int).toNat ≤ x3_1.length from by omega); replace q17 := eq_true q17) | ((with_reducible refine gate_builtin (b := .append) (xs := #[.tmp 25, .tmp 28]) rfl ?_); at_builtin; refine Kd.R_append_rows Kd.string (w0 := w) w.heap.size rfl (.tmp 25) (.tmp 28) 42 9 (.string ⟨#[]⟩) 16 rfl Tryz.underlying42 info9 rfl (by decide) (by omega) v789 y788 y791 _ _ _ (fun k_ => some k_ ≠ (.slice Ao14 x3_1.length co14 : Value).ownBlock) (fun _ => False) rfl rfl ?aO ?aR (fun _ _ h => h) (fun _ h => h.elim) ?aF ?aB ?aS ?aL ?_; (case aR => repeat (first | exact (by repeat (first | (with_reducible exact HR794.out) | (with_reducible refine Kd.C_alloc ?_ _) | (with_reducible refine Kd.C_drewN ?_ _) | (with_reducible refine Kd.C_drew ?_) | exact HR794.out)) | (with_reducible refine Kd.C_alloc ?_ _) | (with_reducible refine Kd.C_drewN ?_ _) | (with_reducible refine Kd.C_drew ?_))); (case aB => exact (BU HB.out)); (case aF => exact (fun k_ hk => Kd.fresh' (Kd.R_lt (RU HO_3.out)) k_ hk)); (case aO => exact (RU (Kd.R_mono HO790.out (fun _ hk => hk.2)))); (case aS => exact (below_size (BU HB.out))); (case aL => have := LMc9.out; omega); intro v796 w18 ho hb hg hat; rw [← Ny795.out] at ho; have n0_ := Aside0.mk (Kd.R_after (ok := (fun _ => True)) (RU HO_3.out) hg hat); have n1_ := Aside0.mk (hb); have n2_ := Aside0.mk ((show Kd.C Kd.string w18 Ao14 y791.length y791 from by rw [Ny791.out]; exact Kd.C_take (m := (t786 : Int).toNat) ((Kd.R_reads' (Kd.R_after (ok := (fun _ => True)) (RU HO_3.out) hg hat)).2.2) KL17.out)); have n3_ := Aside0.mk (ho); clear HO_3 HB HR794 HO790; have HO_3 := n0_; have HB := n1_; have HR794 := n2_; have HO797 := n3_; clear n0_ n1_ n2_ n3_; clear ho hb hg hat; have p798 : 0 ≤ (x4_1 : Int) := OD; have q798 : x4_1 < (l0.length : Int) := OD; obtain ⟨ad798, e798, hx798_0⟩ := Kd.at_string HR0.out x4_1 p798 q798; obtain rfl : ad785 = ad798 := (by injection e798); replace hx798_0 := (HB.out.cell (World.block_lt_of_cell? w _ hx798_0)).trans hx798_0; replace p798 := eq_true p798; replace q798 := eq_true q798) | ((with_reducible refine gate_builtin (b := .append) (xs := #[.tmp 30, .tmp 35]) rfl ?_); at_builtin; refine Kd.R_append Kd.string (w0 := w) w.heap.size rfl (.tmp 30) (.tmp 35) 42 9 (.string ⟨#[]⟩) 16 rfl Tryz.underlying42 info9 rfl (by decide) (by omega) v796 y795 (rdOf ByteArray.empty l0 x4_1) [.string (rdOf ByteArray.empty l0 x4_1)] (fun k_ => some k_ ≠ (.slice Ao14 x3_1.length co14 : Value).ownBlock) (fun _ => False) rfl rfl ?aP (fun _ hk => hk.elim) ?aF ?aO ?aB ?aS ?aL ?_; (case aP => exact rfl); (case aB => exact (BU HB.out)); (case aF => exact (fun k_ hk => Kd.fresh' (Kd.R_lt (RU HO_3.out)) k_ hk)); (case aO => exact (RU HO797.out)); (case aS => exact (below_size (BU HB.out))); (case aL => have := LMc10.out; omega); intro v800 w19 ho hb hg hat; rw [← Ny799.out] at ho; have n0_ := Aside0.mk (Kd.R_after (ok := (fun _ => True)) (RU HO_3.out) hg hat); have n1_ := Aside0.mk (hb); have n2_ := Aside0.mk ((show Kd.C Kd.string w19 Ao14 y791.length y791 from by rw [Ny791.out]; exact Kd.C_take (m := (t786 : Int).toNat) ((Kd.R_reads' (Kd.R_after (ok := (fun _ => True)) (RU HO_3.out) hg hat)).2.2) KL17.out)); have n3_ := Aside0.mk (ho); clear HO_3 HB HR794 HO797; have HO_3 := n0_; have HB := n1_; have HR794 := n2_; have HO801 := n3_; clear n0_ n1_ n2_ n3_; clear ho hb hg hat; have q20 : (t786 : Int) ≤ ((x3_1.length : Int) : Int) := OD; obtain ⟨i020, hi020, _, hsz20, _⟩ := info_parts info9; have hroom20 : x3_1.length ≤ co14 := (Kd.R_reads' HO_3.out).2.1; have hC20 : Kd.C Kd.string _ Ao14 x3_1.length x3_1 := (Kd.R_reads' HO_3.out).2.2; have q020 : (0 : Int) ≤ (t786 : Int) := OD; have hcut20 := cut_from (P := Tryz.prog) 42 9 .i64 Tryz.underlying42 hi020 1 hsz20 Ao14 x3_1.length co14 t786 q020 q20; have hr20 := Kd.C_drop (m := (t786 : Int).toNat) (c := co14) hC20 (by omega) hroom20; obtain ⟨A20, hA20⟩ : ∃ A1, A1 = (if co14 = (t786 : Int).toNat then Ao14 else (Ao14 : Option Addr).map (·.add ((t786 : Int).toNat * 1))) := ⟨_, rfl⟩; obtain ⟨c20, hc20⟩ : ∃ c1, c1 = co14 - (t786 : Int).toNat := ⟨_, rfl⟩; have hy20 : y802.length = x3_1.length - (t786 : Int).toNat := (by rw [Ny802.out, List.length_drop] <;> omega); rw [show (x3_1).drop (t786 : Int).toNat = y802 from Ny802.out.symm] at hr20; replace hr20 : Kd.C Kd.string _ A20 y802.length y802 := (by rw [hA20]; exact hr20); rw [← hy20, ← hA20, ← hc20] at hcut20; have HR805 := Aside0.mk hr20; have HC805 := Aside0.mk (show y802.length ≤ c20 from by rw [hy20, hc20]; exact Nat.sub_le_sub_right hroom20 _); clear hr20 hC20 hroom20 hi020 hsz20 hc20; have KY20 := Aside0.mk hy20; have KA20 := Aside0.mk hA20; clear hy20 hA20; have KL20 := Aside0.mk (show (t786 : Int).toNat ≤ x3_1.length from by omega); replace q20 := eq_true q20) | ((with_reducible refine gate_builtin (b := .append) (xs := #[.tmp 37, .tmp 40]) rfl ?_); at_builtin; refine Kd.R_append_rows Kd.string (w0 := w) w.heap.size rfl (.tmp 37) (.tmp 40) 42 9 (.string ⟨#[]⟩) 16 rfl Tryz.underlying42 info9 rfl (by decide) (by omega) v800 y799 y802 _ _ _ (fun k_ => some k_ ≠ (.slice Ao14 x3_1.length co14 : Value).ownBlock) (fun _ => False) rfl rfl ?aO ?aR (fun _ _ h => h) (fun _ h => h.elim) ?aF ?aB ?aS ?aL ?_; (case aR => repeat (first | exact (by repeat (first | (with_reducible exact HR805.out) | (with_reducible refine Kd.C_alloc ?_ _) | (with_reducible refine Kd.C_drewN ?_ _) | (with_reducible refine Kd.C_drew ?_) | exact HR805.out)) | (with_reducible refine Kd.C_alloc ?_ _) | (with_reducible refine Kd.C_drewN ?_ _) | (with_reducible refine Kd.C_drew ?_))); (case aB => exact (BU HB.out)); (case aF => exact (fun k_ hk => Kd.fresh' (Kd.R_lt (RU HO_3.out)) k_ hk)); (case aO => exact (RU HO801.out)); (case aS => exact (below_size (BU HB.out))); (case aL => have := LMc13.out; omega); intro v807 w21 ho hb hg hat; rw [← Ny806.out] at ho; have n0_ := Aside0.mk (Kd.R_after (ok := (fun _ => True)) (RU HO_3.out) hg hat); have n1_ := Aside0.mk (hb); have n2_ := Aside0.mk ((show Kd.C Kd.string w21 Ao14 y791.length y791 from by rw [Ny791.out]; exact Kd.C_take (m := (t786 : Int).toNat) ((Kd.R_reads' (Kd.R_after (ok := (fun _ => True)) (RU HO_3.out) hg hat)).2.2) KL17.out)); have n3_ := Aside0.mk ((show Kd.C Kd.string w21 A20 y802.length y802 from by rw [Ny802.out, KA20.out]; exact Kd.C_drop (m := (t786 : Int).toNat) (c := co14) ((Kd.R_reads' (Kd.R_after (ok := (fun _ => True)) (RU HO_3.out) hg hat)).2.2) KL20.out ((Kd.R_reads' (Kd.R_after (ok := (fun _ => True)) (RU HO_3.out) hg hat)).2.1))); have n4_ := Aside0.mk (ho); clear HO_3 HB HR794 HR805 HO801; have HO_3 := n0_; have HB := n1_; have HR794 := n2_; have HR805 := n3_; have HO808 := n4_; clear n0_ n1_ n2_ n3_ n4_; clear ho hb hg hat))
           go_roundg k1
           case measure => have := HK1.out; omega
           case rel => exact ⟨(y806), (wrap64 (x4_1 + 1)), EB, H', ⟨by have := HK1.out; omega⟩, ⟨RU (Kd.R_mono HO808.out (fun _ hk => trivial))⟩, ⟨BU HB.out⟩⟩
          ·rw [if_neg c13] at H
           exact absurd H (by simp)
         ·rw [if_neg c10] at H
          exact absurd H (by simp)
        ·rw [if_neg c9] at H
         exact absurd H (by simp)
       ·rw [if_neg c8] at H
        exact absurd H (by simp)
      ·rw [if_neg c7] at H
       exact absurd H (by simp)
    ·rw [if_neg c3] at H
     exact absurd H (by simp)
   ·rw [if_neg c2] at H
    have c2b0 : decide (x4_1 < (l0.length : Int)) = false := decide_eq_false c2
    clear c2
    obtain rfl := Option.some.inj H
    go_wp2
    go_ret
    exact ⟨_, by first | rfl | (simp [errW_none, errW_some] <;> rfl) | (simp [*, errW_none, errW_some] <;> rfl), RU HO_3.out, BU HB.out⟩

/-! ### estreatref01_Blob: function 63 -/
def estreatref01_Blob.f (k : Nat) (l0 : List Int) : Option (List Int) := (estreatref01_Var.f k (IntKind.u64.wrap ((l0.length : Int)))).bind fun t809 => (if t809.length + l0.length < 140737488355328 then (some (t809 ++ l0)) else (none))
set_option maxHeartbeats 8000000 in
set_option maxRecDepth 100000 in
theorem estreatref01_Blob.calls (k : Nat) (A0 : Option Addr) (c0 : Nat) (l0 : List Int) (r : List Int) (w : World) (hr0 : Kd.C (Kd.int .u8) w A0 l0.length l0) (hc0 : l0.length ≤ c0) (h : estreatref01_Blob.f k l0 = some r) :
  Calls Tryz.prog 63 #[.slice A0 l0.length c0] w fun e w' => ∃ v0_ : Value, e = .returned (v0_) ∧ Kd.R (Kd.int .u8) 5 w' w.heap.size (fun _ => True) v0_ r ∧ Below w.heap.size w w' := by
 have HR0 := Aside0.mk hr0
 have HC0 := Aside0.mk hc0
 clear hr0 hc0
 have HB := Aside0.mk (Below.refl w.heap.size w)
 have H : ((estreatref01_Var.f k (IntKind.u64.wrap ((l0.length : Int)))).bind fun t809 => (if t809.length + l0.length < 140737488355328 then (some (t809 ++ l0)) else (none))) = some r := h
 clear h
 replace H := Option.bind_eq_some_iff.mp H
 obtain ⟨t809, A20, H⟩ := H
 replace H : (if t809.length + l0.length < 140737488355328 then (some (t809 ++ l0)) else (none)) = some r := H
 have A2 := Aside0.mk A20
 clear A20
 by_cases c3 : t809.length + l0.length < 140737488355328
 ·rw [if_pos c3] at H
  have LMc3 := Aside0.mk c3
  clear c3
  obtain ⟨y812, hy812⟩ : ∃ y_ : List Int, y_ = (t809 ++ l0) := ⟨_, rfl⟩
  replace H : (some y812) = some r := by first | (rw [hy812]; with_reducible exact H) | (have H2_ := (Option.bind_some _ _).symm.trans H; rw [hy812]; with_reducible exact H2_) | (have H2_ := (Option.bind_some _ _).symm.trans H; with_reducible exact H2_) | with_reducible exact H | (rw [hy812]; exact H) | exact H
  have Ny812 := Aside0.mk hy812
  clear hy812
  obtain rfl := Option.some.inj H
  go_enter Tryz.func63, Tryz.ntmps63
  go_wp2_with (first | ((with_reducible refine gate_callee (f := 54) rfl ?_); refine goesL_ (some 6) rfl rfl Tryz.func54 (by kernel_rfl) rfl #[.int .u64 (IntKind.u64.wrap ((l0.length : Int)))] rfl EA ?_; (with_reducible refine (estreatref01_Var.calls k (IntKind.u64.wrap ((l0.length : Int))) t809 _ A2.out).mono ?_); rintro e w4 ⟨v810, rfl, ho0, hb⟩; refine ⟨_, rfl, ?_⟩; have n0_ := Aside0.mk (Kd.R_lower ho0 (below_size (BU HB.out))); have n1_ := Aside0.mk (below_step (BU HB.out) hb); clear HB; have HO811 := n0_; have HB := n1_; clear n0_ n1_; (try clear hb); (try clear hb2); (try clear hk); (try clear hi); (try clear ho0)) | ((with_reducible refine gate_builtin (b := .append) (xs := #[.tmp 6, .tmp 7]) rfl ?_); at_builtin; refine Kd.R_append_rows (Kd.int .u8) (w0 := w) w.heap.size rfl (.tmp 6) (.tmp 7) 25 5 (.int .u8 0) 1 rfl Tryz.underlying25 info5 rfl (by decide) (by omega) v810 t809 l0 _ _ _ (fun _ => True) (fun _ => False) rfl rfl ?aO ?aR (fun _ _ h => h) (fun _ h => h.elim) ?aF ?aB ?aS ?aL ?_; (case aR => exact CU ((Kd.C_below HR0.out HB.out))); (case aB => exact (BU HB.out)); (case aF => exact (fun _ _ => trivial)); (case aO => exact (RU HO811.out)); (case aS => exact (below_size (BU HB.out))); (case aL => have := LMc3.out; omega); intro v813 w5 ho hb hg hat; rw [← Ny812.out] at ho; have n0_ := Aside0.mk (hb); have n1_ := Aside0.mk (ho); clear HB HO811; have HB := n0_; have HO814 := n1_; clear n0_ n1_; clear ho hb hg hat))
  go_ret
  exact ⟨_, by first | rfl | (simp [errW_none, errW_some] <;> rfl) | (simp [*, errW_none, errW_some] <;> rfl), RU HO814.out, BU HB.out⟩
 ·rw [if_neg c3] at H
  exact absurd H (by simp)

/-- The bytes of a string, as numbers. -/
def estreatref01_BlobS.bs (s : ByteArray) : List Int := s.data.toList.map fun b => (b.toNat : Int)
def estreatref01_BlobS.f (k : Nat) (s : ByteArray) : Option (List Int) := estreatref01_Blob.f k (estreatref01_BlobS.bs s)
theorem estreatref01_BlobS.bs_length (s : ByteArray) : (estreatref01_BlobS.bs s).length = s.size := by unfold estreatref01_BlobS.bs; rw [List.length_map, Array.length_toList]; rfl
theorem estreatref01_BlobS.below (w : World) (e : TypeId) (s : ByteArray) : Below w.heap.size w (Go.Lib.bytesWorld w e s) :=
 ⟨rfl, rfl, rfl, by rw [Go.Lib.bytesWorld_size]; omega, fun j hj => Go.Lib.bytesWorld_at_old w e s j hj⟩
theorem estreatref01_BlobS.reads (w w1 : World) (e : TypeId) (s : ByteArray) (hs : s.size ≤ 9223372036854775807) (h : w1.heap[w.heap.size]? = (Go.Lib.bytesWorld w e s).heap[w.heap.size]?) : (Kd.int .u8).C w1 (some ⟨w.heap.size, 0, none⟩) (estreatref01_BlobS.bs s).length (estreatref01_BlobS.bs s) := by
 rw [estreatref01_BlobS.bs_length]
 refine ⟨estreatref01_BlobS.bs_length s, hs, fun hn => ⟨_, rfl, fun j p hj => ⟨[.int .u8 p], rfl, rfl, fun i u hu => ?_⟩⟩⟩
 have hj' : j < s.size := by have := (List.getElem?_eq_some_iff.1 hj).1; rw [estreatref01_BlobS.bs_length] at this; exact this
 have hc := Go.Lib.bytesWorld_cell w e s j hj'
 have hp : p = ((s.data.toList.getD j 0).toNat : Int) := by
  have hj2 : j < s.data.toList.length := by rw [Array.length_toList]; exact hj'
  simp only [estreatref01_BlobS.bs, List.getElem?_map, List.getElem?_eq_getElem hj2, Option.map_some, Option.some.injEq] at hj
  rw [List.getD_eq_getElem?_getD, List.getElem?_eq_getElem hj2]; exact hj.symm
 rcases i with _ | i
 ·simp at hu
  subst hu
  have ha : (⟨w.heap.size, 0, none⟩ : Addr).add (j * 1 + 0) = ⟨w.heap.size, j, none⟩ := by unfold Addr.add; split <;> simp_all
  show w1.cell? ((⟨w.heap.size, 0, none⟩ : Addr).add (j * 1 + 0)) = _
  rw [ha, hp, ← hc]
  simp only [World.cell?, h]
 ·simp at hu
theorem estreatref01_BlobS.wp {W : World} {ops : Array Oper} {rest : List Oper} {o1 o2 : Oper} {a : Act} {Q : Exit → Act → World → Prop} {x : Operand} {t : Tmp} (k : Nat) (s : ByteArray) (r : List Int)
  (hg1 : o1.guard = none) (hop1 : o1.op = .convert 9 25 x) (hd1 : o1.dst = some t) (hg2 : o2.guard = none) (hop2 : o2.op = .call { callee := .value (.func 63), args := #[.tmp t], argTypes := #[25] })
  (hx : a.eval x = .string s) (hb : ∀ v, (a.put (some t) v).eval (.tmp t) = v) (hs : s.size ≤ 9223372036854775807 ∨ True) (h : estreatref01_BlobS.f k s = some r)
  (hK : ∀ (v1 : Value) (e : Ending) (w' : World), (∃ v0_ : Value, e = .returned v0_ ∧ Kd.R (Kd.int .u8) 5 w' W.heap.size (fun _ => True) v0_ r ∧ Below W.heap.size W w') → ∃ v : Value, e = .returned v ∧ wpList Tryz.prog ops Q rest ((a.put o1.dst v1).put o2.dst v) w') :
  wpList Tryz.prog ops Q (o1 :: o2 :: rest) a W := by
 have hs : s.size ≤ 9223372036854775807 := by
  by_cases hc : s.size ≤ 9223372036854775807
  ·exact hc
  ·exfalso
   unfold estreatref01_BlobS.f estreatref01_Blob.f at h
   obtain ⟨t1, _, h⟩ := Option.bind_eq_some_iff.mp h
   by_cases c : t1.length + (estreatref01_BlobS.bs s).length < 140737488355328
   ·rw [estreatref01_BlobS.bs_length] at c; omega
   ·rw [if_neg c] at h; cases h
 have hrun := Go.Lib.run_convert_string_bytes (P := Tryz.prog) W 9 25 5 s (u := .string) (by kernel_rfl) (by kernel_rfl) (by kernel_rfl)
 have hbel := estreatref01_BlobS.below W 5 s
 refine wpList_plain hg1 fun K' hK' => ?_
 unfold Oper.wp
 simp [execOp, hop1, hx, hrun, Result.andThen]
 refine hK' _ _ ?_
 have hcap := grownCap_ge W s.size 0 5
 have hb2 := hb (.slice (some ⟨W.heap.size, 0, none⟩) s.size (grownCap W s.size 0 5))
 have hcall := estreatref01_Blob.calls k (some ⟨W.heap.size, 0, none⟩) (grownCap W s.size 0 5) (estreatref01_BlobS.bs s) r (Go.Lib.bytesWorld W 5 s)
  (estreatref01_BlobS.reads W _ 5 s hs rfl) (by rw [estreatref01_BlobS.bs_length]; exact hcap) h
 rw [estreatref01_BlobS.bs_length] at hcall
 refine goesL_ o2.dst rfl hg2 Tryz.func63 (by kernel_rfl) rfl #[.slice (some ⟨W.heap.size, 0, none⟩) s.size (grownCap W s.size 0 5)] hop2 (by simp only [hd1, List.map_toArray, List.map_cons, List.map_nil, hb2]) (hcall.mono ?_)
 rintro e w' ⟨v0, he, hR, hBw⟩
 exact hK _ e w' ⟨v0, he, Kd.R_lower hR hbel.size, below_weaken hbel hbel.size hBw⟩

end Go.Proofs.YtefcchpjbojdkaaGreatDoor.PChunkPuts
