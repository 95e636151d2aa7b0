/- WRITTEN BY A PROGRAM of this session (wip/tool: a turned copy of the printer), out of the translation: Lean functions with the answers of the Go functions, and the proofs that the Go code comes to them. -/
import Derived.Test.YtefcchpjbojdkaaGreatDoorPChunkPutsx0
import Derived.Test.YtefcchpjbojdkaaGreatDoorPChunkPutsx16
namespace Go.Proofs.YtefcchpjbojdkaaGreatDoor.PChunkPuts
open Go.RowKit Go.Proofs.YtefcchpjbojdkaaGreatDoorW.PrintWords Go.Proofs.YtefcchpjbojdkaaGreatDoorW.PrintLast Go.Proofs.YtefcchpjbojdkaaGreatDoorW.PrintMore
attribute [local go_sem] max2_int min2_int max_two min_two max_three min_three max_four min_four   -- for this text's walks alone
set_option linter.unusedVariables false
set_option linter.unusedSimpArgs false

/-! ### estreatref08_Put: function 26 -/
def estreatref08_Put.l0 : Nat → List Int → List Int → Int → Option (List Int)
 | 0, _, _, _ => none
 | k + 1, x0, x3, x4 => if x4 < (x0.length : Int) then (if 0 ≤ x4 then ((estreatref01_Zig.f (rd x0 x4)).bind fun t618 => ((estreatref01_Var.f k t618).bind fun t619 => (if x3.length + t619.length < 140737488355328 then (estreatref08_Put.l0 k x0 (x3 ++ t619) (wrap64 (x4 + 1))) else (none)))) else (none)) else (some x3)
def estreatref08_Put.f (k : Nat) (l0 : List Int) : Option (List Int) := estreatref08_Put.l0 k l0 ([] : List Int) 0
set_option maxHeartbeats 8000000 in
set_option maxRecDepth 100000 in
theorem estreatref08_Put.calls (k : Nat) (A0 : Option Addr) (c0 : Nat) (l0 : List Int) (r : List Int) (w : World) (hr0 : Kd.C (Kd.int .i64) w A0 l0.length l0) (hc0 : l0.length ≤ c0) (h : estreatref08_Put.f k l0 = some r) :
  Calls Tryz.prog 26 #[.slice A0 l0.length c0] w fun e w' => ∃ v0_ : Value, e = .returned (v0_) ∧ Kd.R (Kd.int .u8) 5 w' w.heap.size (fun _ => True) v0_ r ∧ Below w.heap.size w w' := by
 have HR0 := Aside0.mk hr0
 have HC0 := Aside0.mk hc0
 clear hr0 hc0
 have HB := Aside0.mk (Below.refl w.heap.size w)
 have H : (estreatref08_Put.l0 k l0 ([] : List Int) 0) = some r := h
 clear h
 have H' := Aside0.mk H
 clear H
 go_enter Tryz.func26, Tryz.ntmps26
 go_wp2
 go_loopg [3, 4] k (fun kq v3 v4 w' => ∃ (x3_1 : List Int) (x4_1 : Int), v4 = .int .i64 x4_1 ∧ Aside0 (estreatref08_Put.l0 kq l0 x3_1 x4_1 = some r) ∧ Aside0 (kq ≤ k) ∧ Aside0 (Kd.R (Kd.int .u8) 5 w' w.heap.size (fun _ => True) v3 x3_1) ∧ Aside0 (Below w.heap.size w w'))
 case atStart => exact ⟨(([] : List Int)), (0), EB, H', ⟨Nat.le_refl _⟩, ⟨by first | exact Kd.R_nil _ _ _ _ _ | exact Kd.N_nil _ _ _ _ _ | exact Kd.V_nil _ _ _ _ _ | exact Kd.Q_nil _ _ _ _ _ | exact Kd.S_nil _ _ _ _ _⟩, ⟨BU HB.out⟩⟩
 case round =>
  clear H'
  obtain ⟨x3_1, x4_1, rfl, HA, HK1, HO_3, HB⟩ := hrel
  cases gk with
  | zero => exact absurd HA.out (by simp [estreatref08_Put.l0])
  | succ k1 =>
   have H := HA.out
   clear HA
   simp only [estreatref08_Put.l0] at H
   by_cases c2 : x4_1 < (l0.length : Int)
   ·rw [if_pos c2] at H
    have c2b0 : decide (x4_1 < (l0.length : Int)) = true := decide_eq_true c2
    clear c2
    by_cases c3 : 0 ≤ x4_1
    ·rw [if_pos c3] at H
     have c3b0 : decide (0 ≤ x4_1) = true := decide_eq_true c3
     clear c3
     replace H := Option.bind_eq_some_iff.mp H
     obtain ⟨t618, A40, H⟩ := H
     replace H : ((estreatref01_Var.f k1 t618).bind fun t619 => (if x3_1.length + t619.length < 140737488355328 then (estreatref08_Put.l0 k1 l0 (x3_1 ++ t619) (wrap64 (x4_1 + 1))) else (none))) = some r := H
     have A4 := Aside0.mk A40
     clear A40
     replace H := Option.bind_eq_some_iff.mp H
     obtain ⟨t619, A50, H⟩ := H
     replace H : (if x3_1.length + t619.length < 140737488355328 then (estreatref08_Put.l0 k1 l0 (x3_1 ++ t619) (wrap64 (x4_1 + 1))) else (none)) = some r := H
     have A5 := Aside0.mk A50
     clear A50
     by_cases c6 : x3_1.length + t619.length < 140737488355328
     ·rw [if_pos c6] at H
      have LMc6 := Aside0.mk c6
      clear c6
      obtain ⟨y622, hy622⟩ : ∃ y_ : List Int, y_ = (x3_1 ++ t619) := ⟨_, rfl⟩
      replace H : (estreatref08_Put.l0 k1 l0 y622 (wrap64 (x4_1 + 1))) = some r := by first | (rw [hy622]; with_reducible exact H) | (have H2_ := (Option.bind_some _ _).symm.trans H; rw [hy622]; with_reducible exact H2_) | (have H2_ := (Option.bind_some _ _).symm.trans H; with_reducible exact H2_) | with_reducible exact H | (rw [hy622]; exact H) | exact H
      have Ny622 := Aside0.mk hy622
      clear hy622
      have H' := Aside0.mk H
      clear H
      have p617 : 0 ≤ (x4_1 : Int) := OD
      have q617 : x4_1 < (l0.length : Int) := OD
      obtain ⟨ad617, e617, hx617_0⟩ := Kd.at_int HR0.out x4_1 p617 q617
      cases e617
      replace hx617_0 := (HB.out.cell (World.block_lt_of_cell? w _ hx617_0)).trans hx617_0
      replace p617 := eq_true p617
      replace q617 := eq_true q617
      go_wp2_with (first | ((with_reducible refine gate_callee (f := 55) rfl ?_); refine goesL_ (some 16) rfl rfl Tryz.func55 (by kernel_rfl) rfl #[.int .i64 (rd l0 x4_1)] rfl EA ?_; (with_reducible refine (estreatref01_Zig.calls (rd l0 x4_1) t618 _ A4.out).mono ?_); rintro e w' ⟨rfl, ⟨nd, rfl⟩⟩; refine ⟨_, rfl, ?_⟩) | ((with_reducible refine gate_callee (f := 54) rfl ?_); refine goesL_ (some 17) rfl rfl Tryz.func54 (by kernel_rfl) rfl #[.int .u64 t618] rfl EA ?_; (with_reducible refine (estreatref01_Var.calls k1 t618 t619 _ A5.out).mono ?_); rintro e w7 ⟨v620, rfl, ho0, hb⟩; refine ⟨_, rfl, ?_⟩; have n0_ := Aside0.mk (Kd.R_elder' (RU HO_3.out) (Kd.R_base ho0) hb); have n1_ := Aside0.mk (Kd.R_lower (Kd.R_new' ho0 (Kd.R_lt (RU HO_3.out))) (below_size (BU HB.out))); have n2_ := Aside0.mk (below_step (BU HB.out) hb); clear HO_3 HB; have HO_3 := n0_; have HO621 := n1_; have HB := n2_; clear n0_ n1_ n2_; (try clear hb); (try clear hb2); (try clear hk); (try clear hi); (try clear ho0); obtain ⟨Ao9, co9, eo9⟩ := Kd.R_slice HO621.out; subst eo9) | ((with_reducible refine gate_builtin (b := .append) (xs := #[.tmp 11, .tmp 17]) rfl ?_); at_builtin; refine Kd.R_append_rows (Kd.int .u8) (w0 := w) w.heap.size rfl (.tmp 11) (.tmp 17) 25 5 (.int .u8 0) 1 rfl Tryz.underlying25 info5 rfl (by decide) (by omega) u3 x3_1 t619 _ _ _ (fun k_ => some k_ ≠ (.slice Ao9 t619.length co9 : Value).ownBlock) (fun _ => False) rfl rfl ?aO ?aR (fun _ _ h => h) (fun _ h => h.elim) ?aF ?aB ?aS ?aL ?_; (case aR => exact CU ((Kd.R_reads' HO621.out).2.2)); (case aB => exact (BU HB.out)); (case aF => exact (fun k_ hk => Kd.fresh' (Kd.R_lt (RU HO621.out)) k_ hk)); (case aO => exact (RU (Kd.R_mono HO_3.out (fun _ hk => hk.2)))); (case aS => exact (below_size (BU HB.out))); (case aL => have := LMc6.out; omega); intro v623 w8 ho hb hg hat; rw [← Ny622.out] at ho; have n0_ := Aside0.mk (Kd.R_after (ok := (fun _ => True)) (RU HO621.out) hg hat); have n1_ := Aside0.mk (hb); have n2_ := Aside0.mk (ho); clear HO621 HB HO_3; have HO621 := n0_; have HB := n1_; have HO624 := n2_; clear n0_ n1_ n2_; clear ho hb hg hat))
      go_roundg k1
      case measure => have := HK1.out; omega
      case rel => exact ⟨(y622), (wrap64 (x4_1 + 1)), EB, H', ⟨by have := HK1.out; omega⟩, ⟨RU (Kd.R_mono HO624.out (fun _ hk => trivial))⟩, ⟨BU HB.out⟩⟩
     ·rw [if_neg c6] at H
      exact absurd H (by simp)
    ·rw [if_neg c3] at H
     exact absurd H (by simp)
   ·rw [if_neg c2] at H
    have c2b0 : decide (x4_1 < (l0.length : Int)) = false := decide_eq_false c2
    clear c2
    obtain rfl := Option.some.inj H
    go_wp2
    go_ret
    exact ⟨_, by first | rfl | (simp [errW_none, errW_some] <;> rfl) | (simp [*, errW_none, errW_some] <;> rfl), RU HO_3.out, BU HB.out⟩

/-! ### estreatref09_Runs: function 56 -/
def estreatref09_Runs.l0 : Nat → List Int → List (S77) → Int → Option ((List (S77)))
 | 0, _, _, _ => none
 | k + 1, x0, x3, x4 => if x4 < (x0.length : Int) then (if (x3.length : Int) > 0 then (if 0 ≤ (wrap64 ((x3.length : Int) - 1)) then (if (wrap64 ((x3.length : Int) - 1)) < (x3.length : Int) then (if 0 ≤ x4 then (if ((rd_T77 x3 (wrap64 ((x3.length : Int) - 1))).f0) = (rd x0 x4) then (estreatref09_Runs.l0 k x0 (x3.set ((wrap64 ((x3.length : Int) - 1)) : Int).toNat (⟨(rd_T77 x3 (wrap64 ((x3.length : Int) - 1))).f0, wrap64 (((rd_T77 x3 (wrap64 ((x3.length : Int) - 1))).f1) + 1)⟩ : S77)) (wrap64 (x4 + 1))) else (if x3.length < 8796093022208 then (estreatref09_Runs.l0 k x0 (x3 ++ [(⟨rd x0 x4, 1⟩ : S77)]) (wrap64 (x4 + 1))) else (none))) else (none)) else (none)) else (none)) else (if 0 ≤ x4 then (if x3.length < 8796093022208 then (estreatref09_Runs.l0 k x0 (x3 ++ [(⟨rd x0 x4, 1⟩ : S77)]) (wrap64 (x4 + 1))) else (none)) else (none))) else (some x3)
def estreatref09_Runs.f (k : Nat) (l0 : List Int) : Option ((List (S77))) := estreatref09_Runs.l0 k l0 ([] : List (S77)) 0
set_option maxHeartbeats 8000000 in
set_option maxRecDepth 100000 in
theorem estreatref09_Runs.calls (k : Nat) (A0 : Option Addr) (c0 : Nat) (l0 : List Int) (r : List (S77)) (w : World) (hr0 : Kd.C (Kd.int .i64) w A0 l0.length l0) (hc0 : l0.length ≤ c0) (h : estreatref09_Runs.f k l0 = some r) :
  Calls Tryz.prog 56 #[.slice A0 l0.length c0] w fun e w' => ∃ v0_ : Value, e = .returned (v0_) ∧ Kd.R k77 77 w' w.heap.size (fun _ => True) v0_ r ∧ Below w.heap.size w w' := by
 have hu77 := Tryz.underlying77
 have HR0 := Aside0.mk hr0
 have HC0 := Aside0.mk hc0
 clear hr0 hc0
 have HB := Aside0.mk (Below.refl w.heap.size w)
 have H : (estreatref09_Runs.l0 k l0 ([] : List (S77)) 0) = some r := h
 clear h
 have H' := Aside0.mk H
 clear H
 go_enter Tryz.func56, Tryz.ntmps56
 go_wp2
 repeat (go_quiet (fail); try go_wp2)
 go_loopg [3, 4] k (fun kq v3 v4 w' => ∃ (x3_1 : List (S77)) (x4_1 : Int), v4 = .int .i64 x4_1 ∧ Aside0 (estreatref09_Runs.l0 kq l0 x3_1 x4_1 = some r) ∧ Aside0 (kq ≤ k) ∧ Aside0 (Kd.R k77 77 w' w.heap.size (fun _ => True) v3 x3_1) ∧ Aside0 (Below w.heap.size w w'))
 case atStart => exact ⟨(([] : List (S77))), (0), EB, H', ⟨Nat.le_refl _⟩, ⟨by first | exact Kd.R_nil _ _ _ _ _ | exact Kd.N_nil _ _ _ _ _ | exact Kd.V_nil _ _ _ _ _ | exact Kd.Q_nil _ _ _ _ _ | exact Kd.S_nil _ _ _ _ _⟩, ⟨BU HB.out⟩⟩
 case round =>
  clear H'
  obtain ⟨x3_1, x4_1, rfl, HA, HK1, HO_3, HB⟩ := hrel
  cases gk with
  | zero => exact absurd HA.out (by simp [estreatref09_Runs.l0])
  | succ k1 =>
   have H := HA.out
   clear HA
   simp only [estreatref09_Runs.l0] at H
   by_cases c2 : x4_1 < (l0.length : Int)
   ·rw [if_pos c2] at H
    have c2b0 : decide (x4_1 < (l0.length : Int)) = true := decide_eq_true c2
    clear c2
    by_cases c3 : (x3_1.length : Int) > 0
    ·rw [if_pos c3] at H
     have c3b0 : decide (0 < (x3_1.length : Int)) = true := decide_eq_true c3
     have c3b1 : decide (0 < x3_1.length) = true := decide_eq_true (by omega)
     clear c3
     obtain ⟨ji4, hji4⟩ : ∃ j_ : Int, (wrap64 ((x3_1.length : Int) - 1)) = j_ := ⟨_, rfl⟩
     replace H : (if 0 ≤ (ji4) then (if (ji4) < (x3_1.length : Int) then (if 0 ≤ x4_1 then (if ((rd_T77 x3_1 (ji4)).f0) = (rd l0 x4_1) then (estreatref09_Runs.l0 k1 l0 (x3_1.set ((ji4) : Int).toNat (⟨(rd_T77 x3_1 (ji4)).f0, wrap64 (((rd_T77 x3_1 (ji4)).f1) + 1)⟩ : S77)) (wrap64 (x4_1 + 1))) else (if x3_1.length < 8796093022208 then (estreatref09_Runs.l0 k1 l0 (x3_1 ++ [(⟨rd l0 x4_1, 1⟩ : S77)]) (wrap64 (x4_1 + 1))) else (none))) else (none)) else (none)) else (none)) = some r := by first | (rw [hji4] at H; exact H) | (simp only [hji4] at H ⊢; exact H)
     have hji4w : (IntKind.i64.wrap ((x3_1.length : Int) - 1)) = ji4 := (i64_w _).trans hji4
     by_cases c5 : 0 ≤ (ji4)
     ·rw [if_pos c5] at H
      have c5b0 : decide (0 ≤ (ji4)) = true := decide_eq_true c5
      clear c5
      by_cases c6 : (ji4) < (x3_1.length : Int)
      ·rw [if_pos c6] at H
       have c6b0 : decide ((ji4) < (x3_1.length : Int)) = true := decide_eq_true c6
       clear c6
       by_cases c7 : 0 ≤ x4_1
       ·rw [if_pos c7] at H
        have c7b0 : decide (0 ≤ x4_1) = true := decide_eq_true c7
        clear c7
        by_cases c8 : ((rd_T77 x3_1 (ji4)).f0) = (rd l0 x4_1)
        ·rw [if_pos c8] at H
         have c8b0 : (((rd_T77 x3_1 (ji4)).f0) == (rd l0 x4_1)) = true := beq_iff_eq.mpr c8
         have c8b1 : (((rd_T77 x3_1 (ji4)).f0) != (rd l0 x4_1)) = false := bne_eq_false_iff_eq.mpr c8
         clear c8
         obtain ⟨y628, hy628⟩ : ∃ y_ : List (S77), y_ = (x3_1.set ((ji4) : Int).toNat (⟨(rd_T77 x3_1 (ji4)).f0, wrap64 (((rd_T77 x3_1 (ji4)).f1) + 1)⟩ : S77)) := ⟨_, rfl⟩
         replace H : (estreatref09_Runs.l0 k1 l0 y628 (wrap64 (x4_1 + 1))) = some r := by first | (rw [hy628]; with_reducible exact H) | (have H2_ := (Option.bind_some _ _).symm.trans H; rw [hy628]; with_reducible exact H2_) | (have H2_ := (Option.bind_some _ _).symm.trans H; with_reducible exact H2_) | with_reducible exact H | (rw [hy628]; exact H) | exact H
         have Ny628 := Aside0.mk hy628
         clear hy628
         have H' := Aside0.mk H
         clear H
         obtain ⟨Ao10, co10, eo10⟩ := Kd.R_slice HO_3.out
         subst eo10
         have p625 : 0 ≤ ((ji4) : Int) := OD
         have q625 : (ji4) < (x3_1.length : Int) := OD
         obtain ⟨ad625, e625, hx625_0, hx625_1⟩ := at_T77 (Kd.R_reads' HO_3.out).2.2 (ji4) p625 q625
         cases e625
         replace p625 := eq_true p625
         replace q625 := eq_true q625
         have p626 : 0 ≤ (x4_1 : Int) := OD
         have q626 : x4_1 < (l0.length : Int) := OD
         obtain ⟨ad626, e626, hx626_0⟩ := Kd.at_int HR0.out x4_1 p626 q626
         cases e626
         replace hx626_0 := (HB.out.cell (World.block_lt_of_cell? w _ hx626_0)).trans hx626_0
         replace p626 := eq_true p626
         replace q626 := eq_true q626
         have p627 : 0 ≤ ((ji4) : Int) := OD
         have q627 : (ji4) < (x3_1.length : Int) := OD
         obtain ⟨ad627, e627, hx627_0, hx627_1⟩ := at_T77 (Kd.R_reads' HO_3.out).2.2 (ji4) p627 q627
         obtain rfl : ad625 = ad627 := (by injection e627)
         replace p627 := eq_true p627
         replace q627 := eq_true q627
         have p9 : 0 ≤ ((ji4) : Int) := OD
         have q9 : ((ji4) : Int) < ((x3_1.length : Int) : Int) := OD
         obtain ⟨go9, co9, eo9, gb9, gl9, cl9, HG9⟩ := Kd.R_form HO_3.out (by omega)
         (first | cases eo9 | (injection eo9 with ea_ en_ ec_; (first | subst ea_ | (injection ea_ with ea_; subst ea_)); subst ec_; clear en_))
         have GB9 := Aside0.mk gb9
         have GG9 := Aside0.mk HG9
         clear gb9 gl9 HG9
         (first | simp only [add_plain] at hx625_0 | skip)
         (first | simp only [add_plain] at hx625_1 | skip)
         (first | simp only [add_plain] at hx627_0 | skip)
         (first | simp only [add_plain] at hx627_1 | skip)
         obtain ⟨ce9, hcl9, hM9, hcc9, hfr9⟩ := Kd.R_elem HO_3.out z77 ((ji4) : Int) p9 q9
         obtain rfl := k77_openM hM9
         have hx9_0 : wr.cell? ⟨go9, ((ji4) : Int).toNat * 2, none⟩ = some (.int .i64 ((rd_T77 x3_1 (ji4)).f0)) := hcc9 0 _ rfl
         have hx9_1 : wr.cell? ⟨go9, ((ji4) : Int).toNat * 2 + 1, none⟩ = some (.int .i64 ((rd_T77 x3_1 (ji4)).f1)) := hcc9 1 _ rfl
         have hf9_0 : wr.frozen? ⟨go9, ((ji4) : Int).toNat * 2, none⟩ = false := hfr9 0
         have hf9_1 : wr.frozen? ⟨go9, ((ji4) : Int).toNat * 2 + 1, none⟩ = false := hfr9 1
         clear hcl9 hcc9 hfr9 hM9
         replace p9 := eq_true p9
         replace q9 := eq_true q9
         have HX11 := Aside0.mk (show Kd.R k77 77 wr w.heap.size (fun _ => True) (.slice (some ⟨go9, 0, none⟩) x3_1.length co10) x3_1 from (RU HO_3.out))
         obtain ⟨ce11, hcl11, hM11, hcc11, hfr11⟩ := Kd.R_elem HX11.out z77 ((ji4) : Int) (OD) (by have h_ : ((ji4) : Int) < ((x3_1.length : Int) : Int) := OD; first | exact h_ | (have e_ := (Kd.R_reads' HO_3.out).1; omega) | simpa using h_)
         obtain rfl := k77_openM hM11
         have HP11 := Kd.R_seg HX11.out ((ji4) : Int) (OD) (by have h_ : ((ji4) : Int) < ((x3_1.length : Int) : Int) := OD; first | exact h_ | (have e_ := (Kd.R_reads' HO_3.out).1; omega) | simpa using h_) (seg := [.int .i64 (wrap64 (((rd_T77 x3_1 (ji4)).f1) + 1))]) (j := 1) hcl11 hcc11 (show 2 ≤ 2 from by decide) (x' := (⟨(rd_T77 x3_1 (ji4)).f0, wrap64 (((rd_T77 x3_1 (ji4)).f1) + 1)⟩ : S77)) (k77_mkM _ _ _ (⟨(rd_T77 x3_1 (ji4)).f0, wrap64 (((rd_T77 x3_1 (ji4)).f1) + 1)⟩ : S77) ) (fun _ hk => hk)
         have hx11_1 := hcc11 1 _ rfl
         (try simp only [show (k77).sz = 2 from rfl, Nat.mul_one, Nat.add_zero] at hx11_1)
         have hf11_1 := hfr11 1
         (try simp only [show (k77).sz = 2 from rfl, Nat.mul_one, Nat.add_zero] at hf11_1)
         clear hcl11 hcc11 hfr11 hM11
         go_wp2_with (first | ((with_reducible refine gate_store (t := 3) (p := 37) rfl ?_); (try (rw [drewN_self wr]; generalize hq_ : World.drewN wr _ = wr; have n0_ := Aside0.mk (Kd.R_at hq_ HO_3.out); have n1_ := Aside0.mk (below_at hq_ HB.out); clear hq_ HO_3 HB; have HO_3 := n0_; have HB := n1_; clear n0_ n1_; (try (have HX11 := Aside0.mk (show Kd.R k77 77 wr w.heap.size (fun _ => True) (.slice (some ⟨go9, 0, none⟩) x3_1.length co10) x3_1 from (RU HO_3.out)))); (try (obtain ⟨ce11, hcl11, hM11, hcc11, hfr11⟩ := Kd.R_elem HX11.out z77 ((ji4) : Int) (OD) (by have h_ : ((ji4) : Int) < ((x3_1.length : Int) : Int) := OD; first | exact h_ | (have e_ := (Kd.R_reads' HO_3.out).1; omega) | simpa using h_))); (try (obtain rfl := k77_openM hM11)); (try (have HP11 := Kd.R_seg HX11.out ((ji4) : Int) (OD) (by have h_ : ((ji4) : Int) < ((x3_1.length : Int) : Int) := OD; first | exact h_ | (have e_ := (Kd.R_reads' HO_3.out).1; omega) | simpa using h_) (seg := [.int .i64 (wrap64 (((rd_T77 x3_1 (ji4)).f1) + 1))]) (j := 1) hcl11 hcc11 (show 2 ≤ 2 from by decide) (x' := (⟨(rd_T77 x3_1 (ji4)).f0, wrap64 (((rd_T77 x3_1 (ji4)).f1) + 1)⟩ : S77)) (k77_mkM _ _ _ (⟨(rd_T77 x3_1 (ji4)).f0, wrap64 (((rd_T77 x3_1 (ji4)).f1) + 1)⟩ : S77) ) (fun _ hk => hk))); (try (have hx11_1 := hcc11 1 _ rfl)); (try (try simp only [show (k77).sz = 2 from rfl, Nat.mul_one, Nat.add_zero] at hx11_1)); (try (have hf11_1 := hfr11 1)); (try (try simp only [show (k77).sz = 2 from rfl, Nat.mul_one, Nat.add_zero] at hf11_1)); (try (clear hcl11 hcc11 hfr11 hM11)))); refine store_event (t := 3) (p := 37) (v := ?vo_w12) (w1 := (wr.setCell ⟨go9, ((ji4) : Int).toNat * 2 + 1, none⟩ (.int .i64 (wrap64 (((rd_T77 x3_1 (ji4)).f1) + 1))))) ?hg ?ho ?hn ?hr ?_; (case ho => rfl); (case hg => rfl); (case hn => rfl); (case hr => first | (go_simp; done) | (go_simp; rfl)); intro w12 hw; have hg : wr.grownBy w12 (some go9) := (by rw [hw]; exact HP11.2); have hp_ : Kd.R k77 77 w12 w.heap.size (fun _ => True) (.slice (some ⟨go9, 0, none⟩) x3_1.length co10) y628 := (by rw [hw, Ny628.out]; exact HP11.1); clear HP11; have n0_ := Aside0.mk (hp_); have n1_ := Aside0.mk ((by rw [hw]; exact below_set (HB.out) GB9.out : Below w.heap.size w w12)); clear HO_3 HB; have HO_3 := n0_; have HB := n1_; clear n0_ n1_; clear hg hw hp_))
         repeat (go_quiet (first | ((with_reducible refine gate_store (t := 3) (p := 37) rfl ?_); (try (rw [drewN_self wr]; generalize hq_ : World.drewN wr _ = wr; have n0_ := Aside0.mk (Kd.R_at hq_ HO_3.out); have n1_ := Aside0.mk (below_at hq_ HB.out); clear hq_ HO_3 HB; have HO_3 := n0_; have HB := n1_; clear n0_ n1_; (try (have HX11 := Aside0.mk (show Kd.R k77 77 wr w.heap.size (fun _ => True) (.slice (some ⟨go9, 0, none⟩) x3_1.length co10) x3_1 from (RU HO_3.out)))); (try (obtain ⟨ce11, hcl11, hM11, hcc11, hfr11⟩ := Kd.R_elem HX11.out z77 ((ji4) : Int) (OD) (by have h_ : ((ji4) : Int) < ((x3_1.length : Int) : Int) := OD; first | exact h_ | (have e_ := (Kd.R_reads' HO_3.out).1; omega) | simpa using h_))); (try (obtain rfl := k77_openM hM11)); (try (have HP11 := Kd.R_seg HX11.out ((ji4) : Int) (OD) (by have h_ : ((ji4) : Int) < ((x3_1.length : Int) : Int) := OD; first | exact h_ | (have e_ := (Kd.R_reads' HO_3.out).1; omega) | simpa using h_) (seg := [.int .i64 (wrap64 (((rd_T77 x3_1 (ji4)).f1) + 1))]) (j := 1) hcl11 hcc11 (show 2 ≤ 2 from by decide) (x' := (⟨(rd_T77 x3_1 (ji4)).f0, wrap64 (((rd_T77 x3_1 (ji4)).f1) + 1)⟩ : S77)) (k77_mkM _ _ _ (⟨(rd_T77 x3_1 (ji4)).f0, wrap64 (((rd_T77 x3_1 (ji4)).f1) + 1)⟩ : S77) ) (fun _ hk => hk))); (try (have hx11_1 := hcc11 1 _ rfl)); (try (try simp only [show (k77).sz = 2 from rfl, Nat.mul_one, Nat.add_zero] at hx11_1)); (try (have hf11_1 := hfr11 1)); (try (try simp only [show (k77).sz = 2 from rfl, Nat.mul_one, Nat.add_zero] at hf11_1)); (try (clear hcl11 hcc11 hfr11 hM11)))); refine store_event (t := 3) (p := 37) (v := ?vo_w12) (w1 := (wr.setCell ⟨go9, ((ji4) : Int).toNat * 2 + 1, none⟩ (.int .i64 (wrap64 (((rd_T77 x3_1 (ji4)).f1) + 1))))) ?hg ?ho ?hn ?hr ?_; (case ho => rfl); (case hg => rfl); (case hn => rfl); (case hr => first | (go_simp; done) | (go_simp; rfl)); intro w12 hw; have hg : wr.grownBy w12 (some go9) := (by rw [hw]; exact HP11.2); have hp_ : Kd.R k77 77 w12 w.heap.size (fun _ => True) (.slice (some ⟨go9, 0, none⟩) x3_1.length co10) y628 := (by rw [hw, Ny628.out]; exact HP11.1); clear HP11; have n0_ := Aside0.mk (hp_); have n1_ := Aside0.mk ((by rw [hw]; exact below_set (HB.out) GB9.out : Below w.heap.size w w12)); clear HO_3 HB; have HO_3 := n0_; have HB := n1_; clear n0_ n1_; clear hg hw hp_)); try go_wp2_with (first | ((with_reducible refine gate_store (t := 3) (p := 37) rfl ?_); (try (rw [drewN_self wr]; generalize hq_ : World.drewN wr _ = wr; have n0_ := Aside0.mk (Kd.R_at hq_ HO_3.out); have n1_ := Aside0.mk (below_at hq_ HB.out); clear hq_ HO_3 HB; have HO_3 := n0_; have HB := n1_; clear n0_ n1_; (try (have HX11 := Aside0.mk (show Kd.R k77 77 wr w.heap.size (fun _ => True) (.slice (some ⟨go9, 0, none⟩) x3_1.length co10) x3_1 from (RU HO_3.out)))); (try (obtain ⟨ce11, hcl11, hM11, hcc11, hfr11⟩ := Kd.R_elem HX11.out z77 ((ji4) : Int) (OD) (by have h_ : ((ji4) : Int) < ((x3_1.length : Int) : Int) := OD; first | exact h_ | (have e_ := (Kd.R_reads' HO_3.out).1; omega) | simpa using h_))); (try (obtain rfl := k77_openM hM11)); (try (have HP11 := Kd.R_seg HX11.out ((ji4) : Int) (OD) (by have h_ : ((ji4) : Int) < ((x3_1.length : Int) : Int) := OD; first | exact h_ | (have e_ := (Kd.R_reads' HO_3.out).1; omega) | simpa using h_) (seg := [.int .i64 (wrap64 (((rd_T77 x3_1 (ji4)).f1) + 1))]) (j := 1) hcl11 hcc11 (show 2 ≤ 2 from by decide) (x' := (⟨(rd_T77 x3_1 (ji4)).f0, wrap64 (((rd_T77 x3_1 (ji4)).f1) + 1)⟩ : S77)) (k77_mkM _ _ _ (⟨(rd_T77 x3_1 (ji4)).f0, wrap64 (((rd_T77 x3_1 (ji4)).f1) + 1)⟩ : S77) ) (fun _ hk => hk))); (try (have hx11_1 := hcc11 1 _ rfl)); (try (try simp only [show (k77).sz = 2 from rfl, Nat.mul_one, Nat.add_zero] at hx11_1)); (try (have hf11_1 := hfr11 1)); (try (try simp only [show (k77).sz = 2 from rfl, Nat.mul_one, Nat.add_zero] at hf11_1)); (try (clear hcl11 hcc11 hfr11 hM11)))); refine store_event (t := 3) (p := 37) (v := ?vo_w12) (w1 := (wr.setCell ⟨go9, ((ji4) : Int).toNat * 2 + 1, none⟩ (.int .i64 (wrap64 (((rd_T77 x3_1 (ji4)).f1) + 1))))) ?hg ?ho ?hn ?hr ?_; (case ho => rfl); (case hg => rfl); (case hn => rfl); (case hr => first | (go_simp; done) | (go_simp; rfl)); intro w12 hw; have hg : wr.grownBy w12 (some go9) := (by rw [hw]; exact HP11.2); have hp_ : Kd.R k77 77 w12 w.heap.size (fun _ => True) (.slice (some ⟨go9, 0, none⟩) x3_1.length co10) y628 := (by rw [hw, Ny628.out]; exact HP11.1); clear HP11; have n0_ := Aside0.mk (hp_); have n1_ := Aside0.mk ((by rw [hw]; exact below_set (HB.out) GB9.out : Below w.heap.size w w12)); clear HO_3 HB; have HO_3 := n0_; have HB := n1_; clear n0_ n1_; clear hg hw hp_)))
         go_roundg k1
         case measure => have := HK1.out; omega
         case rel => exact ⟨(y628), (wrap64 (x4_1 + 1)), EB, H', ⟨by have := HK1.out; omega⟩, ⟨RU HO_3.out⟩, ⟨BU HB.out⟩⟩
        ·rw [if_neg c8] at H
         have c8b0 : (((rd_T77 x3_1 (ji4)).f0) == (rd l0 x4_1)) = false := beq_eq_false_iff_ne.mpr c8
         have c8b1 : (((rd_T77 x3_1 (ji4)).f0) != (rd l0 x4_1)) = true := bne_iff_ne.mpr c8
         by_cases c13 : x3_1.length < 8796093022208
         ·rw [if_pos c13] at H
          have LMc13 := Aside0.mk c13
          clear c13
          obtain ⟨y630, hy630⟩ : ∃ y_ : List (S77), y_ = (x3_1 ++ [(⟨rd l0 x4_1, 1⟩ : S77)]) := ⟨_, rfl⟩
          replace H : (estreatref09_Runs.l0 k1 l0 y630 (wrap64 (x4_1 + 1))) = some r := by first | (rw [hy630]; with_reducible exact H) | (have H2_ := (Option.bind_some _ _).symm.trans H; rw [hy630]; with_reducible exact H2_) | (have H2_ := (Option.bind_some _ _).symm.trans H; with_reducible exact H2_) | with_reducible exact H | (rw [hy630]; exact H) | exact H
          have Ny630 := Aside0.mk hy630
          clear hy630
          have H' := Aside0.mk H
          clear H
          obtain ⟨Ao14, co14, eo14⟩ := Kd.R_slice HO_3.out
          subst eo14
          have p625 : 0 ≤ ((ji4) : Int) := OD
          have q625 : (ji4) < (x3_1.length : Int) := OD
          obtain ⟨ad625, e625, hx625_0, hx625_1⟩ := at_T77 (Kd.R_reads' HO_3.out).2.2 (ji4) p625 q625
          cases e625
          replace p625 := eq_true p625
          replace q625 := eq_true q625
          have p626 : 0 ≤ (x4_1 : Int) := OD
          have q626 : x4_1 < (l0.length : Int) := OD
          obtain ⟨ad626, e626, hx626_0⟩ := Kd.at_int HR0.out x4_1 p626 q626
          cases e626
          replace hx626_0 := (HB.out.cell (World.block_lt_of_cell? w _ hx626_0)).trans hx626_0
          replace p626 := eq_true p626
          replace q626 := eq_true q626
          have p629 : 0 ≤ (x4_1 : Int) := OD
          have q629 : x4_1 < (l0.length : Int) := OD
          obtain ⟨ad629, e629, hx629_0⟩ := Kd.at_int HR0.out x4_1 p629 q629
          obtain rfl : ad626 = ad629 := (by injection e629)
          replace hx629_0 := (HB.out.cell (World.block_lt_of_cell? w _ hx629_0)).trans hx629_0
          replace p629 := eq_true p629
          replace q629 := eq_true q629
          go_wp2_with (first | ((with_reducible refine gate_builtin (b := .append) (xs := #[.tmp 38, .tmp 44]) rfl ?_); at_builtin; refine Kd.R_append k77 (w0 := w) w.heap.size rfl (.tmp 38) (.tmp 44) 74 77 (.agg #[(.int .i64 0), (.int .i64 0)]) 16 rfl Tryz.underlying74 info77 rfl (by decide) (by omega) (.slice (some ad625) x3_1.length co14) x3_1 (⟨rd l0 x4_1, 1⟩ : S77) [.int .i64 (rd l0 x4_1), .int .i64 1] (fun _ => True) (fun _ => False) rfl rfl ?aP (fun _ hk => hk.elim) ?aF ?aO ?aB ?aS ?aL ?_; (case aP => exact k77_mkM _ _ _ (⟨rd l0 x4_1, 1⟩ : S77)); (case aB => exact (BU HB.out)); (case aF => exact (fun _ _ => trivial)); (case aO => exact (RU HO_3.out)); (case aS => exact (below_size (BU HB.out))); (case aL => have := LMc13.out; omega); intro v631 w15 ho hb hg hat; rw [← Ny630.out] at ho; have n0_ := Aside0.mk (hb); have n1_ := Aside0.mk (ho); clear HB HO_3; have HB := n0_; have HO632 := n1_; clear n0_ n1_; clear ho hb hg hat))
          repeat (go_quiet (first | ((with_reducible refine gate_builtin (b := .append) (xs := #[.tmp 38, .tmp 44]) rfl ?_); at_builtin; refine Kd.R_append k77 (w0 := w) w.heap.size rfl (.tmp 38) (.tmp 44) 74 77 (.agg #[(.int .i64 0), (.int .i64 0)]) 16 rfl Tryz.underlying74 info77 rfl (by decide) (by omega) (.slice (some ad625) x3_1.length co14) x3_1 (⟨rd l0 x4_1, 1⟩ : S77) [.int .i64 (rd l0 x4_1), .int .i64 1] (fun _ => True) (fun _ => False) rfl rfl ?aP (fun _ hk => hk.elim) ?aF ?aO ?aB ?aS ?aL ?_; (case aP => exact k77_mkM _ _ _ (⟨rd l0 x4_1, 1⟩ : S77)); (case aB => exact (BU HB.out)); (case aF => exact (fun _ _ => trivial)); (case aO => exact (RU HO_3.out)); (case aS => exact (below_size (BU HB.out))); (case aL => have := LMc13.out; omega); intro v631 w15 ho hb hg hat; rw [← Ny630.out] at ho; have n0_ := Aside0.mk (hb); have n1_ := Aside0.mk (ho); clear HB HO_3; have HB := n0_; have HO632 := n1_; clear n0_ n1_; clear ho hb hg hat)); try go_wp2_with (first | ((with_reducible refine gate_builtin (b := .append) (xs := #[.tmp 38, .tmp 44]) rfl ?_); at_builtin; refine Kd.R_append k77 (w0 := w) w.heap.size rfl (.tmp 38) (.tmp 44) 74 77 (.agg #[(.int .i64 0), (.int .i64 0)]) 16 rfl Tryz.underlying74 info77 rfl (by decide) (by omega) (.slice (some ad625) x3_1.length co14) x3_1 (⟨rd l0 x4_1, 1⟩ : S77) [.int .i64 (rd l0 x4_1), .int .i64 1] (fun _ => True) (fun _ => False) rfl rfl ?aP (fun _ hk => hk.elim) ?aF ?aO ?aB ?aS ?aL ?_; (case aP => exact k77_mkM _ _ _ (⟨rd l0 x4_1, 1⟩ : S77)); (case aB => exact (BU HB.out)); (case aF => exact (fun _ _ => trivial)); (case aO => exact (RU HO_3.out)); (case aS => exact (below_size (BU HB.out))); (case aL => have := LMc13.out; omega); intro v631 w15 ho hb hg hat; rw [← Ny630.out] at ho; have n0_ := Aside0.mk (hb); have n1_ := Aside0.mk (ho); clear HB HO_3; have HB := n0_; have HO632 := n1_; clear n0_ n1_; clear ho hb hg hat)))
          go_roundg k1
          case measure => have := HK1.out; omega
          case rel => exact ⟨(y630), (wrap64 (x4_1 + 1)), EB, H', ⟨by have := HK1.out; omega⟩, ⟨RU HO632.out⟩, ⟨BU HB.out⟩⟩
         ·rw [if_neg c13] at H
          exact absurd H (by simp)
       ·rw [if_neg c7] at H
        exact absurd H (by simp)
      ·rw [if_neg c6] at H
       exact absurd H (by simp)
     ·rw [if_neg c5] at H
      exact absurd H (by simp)
    ·rw [if_neg c3] at H
     have c3b0 : decide (0 < (x3_1.length : Int)) = false := decide_eq_false c3
     have c3b1 : decide (0 < x3_1.length) = false := decide_eq_false (by omega)
     clear c3
     by_cases c16 : 0 ≤ x4_1
     ·rw [if_pos c16] at H
      have c16b0 : decide (0 ≤ x4_1) = true := decide_eq_true c16
      clear c16
      by_cases c17 : x3_1.length < 8796093022208
      ·rw [if_pos c17] at H
       have LMc17 := Aside0.mk c17
       clear c17
       obtain ⟨y634, hy634⟩ : ∃ y_ : List (S77), y_ = (x3_1 ++ [(⟨rd l0 x4_1, 1⟩ : S77)]) := ⟨_, rfl⟩
       replace H : (estreatref09_Runs.l0 k1 l0 y634 (wrap64 (x4_1 + 1))) = some r := by first | (rw [hy634]; with_reducible exact H) | (have H2_ := (Option.bind_some _ _).symm.trans H; rw [hy634]; with_reducible exact H2_) | (have H2_ := (Option.bind_some _ _).symm.trans H; with_reducible exact H2_) | with_reducible exact H | (rw [hy634]; exact H) | exact H
       have Ny634 := Aside0.mk hy634
       clear hy634
       have H' := Aside0.mk H
       clear H
       obtain ⟨Ao18, co18, eo18⟩ := Kd.R_slice HO_3.out
       subst eo18
       have p633 : 0 ≤ (x4_1 : Int) := OD
       have q633 : x4_1 < (l0.length : Int) := OD
       obtain ⟨ad633, e633, hx633_0⟩ := Kd.at_int HR0.out x4_1 p633 q633
       cases e633
       replace hx633_0 := (HB.out.cell (World.block_lt_of_cell? w _ hx633_0)).trans hx633_0
       replace p633 := eq_true p633
       replace q633 := eq_true q633
       go_wp2_with (first | ((with_reducible refine gate_builtin (b := .append) (xs := #[.tmp 38, .tmp 44]) rfl ?_); at_builtin; refine Kd.R_append k77 (w0 := w) w.heap.size rfl (.tmp 38) (.tmp 44) 74 77 (.agg #[(.int .i64 0), (.int .i64 0)]) 16 rfl Tryz.underlying74 info77 rfl (by decide) (by omega) (.slice Ao18 x3_1.length co18) x3_1 (⟨rd l0 x4_1, 1⟩ : S77) [.int .i64 (rd l0 x4_1), .int .i64 1] (fun _ => True) (fun _ => False) rfl rfl ?aP (fun _ hk => hk.elim) ?aF ?aO ?aB ?aS ?aL ?_; (case aP => exact k77_mkM _ _ _ (⟨rd l0 x4_1, 1⟩ : S77)); (case aB => exact (BU HB.out)); (case aF => exact (fun _ _ => trivial)); (case aO => exact (RU HO_3.out)); (case aS => exact (below_size (BU HB.out))); (case aL => have := LMc17.out; omega); intro v635 w19 ho hb hg hat; rw [← Ny634.out] at ho; have n0_ := Aside0.mk (hb); have n1_ := Aside0.mk (ho); clear HB HO_3; have HB := n0_; have HO636 := n1_; clear n0_ n1_; clear ho hb hg hat))
       repeat (go_quiet (first | ((with_reducible refine gate_builtin (b := .append) (xs := #[.tmp 38, .tmp 44]) rfl ?_); at_builtin; refine Kd.R_append k77 (w0 := w) w.heap.size rfl (.tmp 38) (.tmp 44) 74 77 (.agg #[(.int .i64 0), (.int .i64 0)]) 16 rfl Tryz.underlying74 info77 rfl (by decide) (by omega) (.slice Ao18 x3_1.length co18) x3_1 (⟨rd l0 x4_1, 1⟩ : S77) [.int .i64 (rd l0 x4_1), .int .i64 1] (fun _ => True) (fun _ => False) rfl rfl ?aP (fun _ hk => hk.elim) ?aF ?aO ?aB ?aS ?aL ?_; (case aP => exact k77_mkM _ _ _ (⟨rd l0 x4_1, 1⟩ : S77)); (case aB => exact (BU HB.out)); (case aF => exact (fun _ _ => trivial)); (case aO => exact (RU HO_3.out)); (case aS => exact (below_size (BU HB.out))); (case aL => have := LMc17.out; omega); intro v635 w19 ho hb hg hat; rw [← Ny634.out] at ho; have n0_ := Aside0.mk (hb); have n1_ := Aside0.mk (ho); clear HB HO_3; have HB := n0_; have HO636 := n1_; clear n0_ n1_; clear ho hb hg hat)); try go_wp2_with (first | ((with_reducible refine gate_builtin (b := .append) (xs := #[.tmp 38, .tmp 44]) rfl ?_); at_builtin; refine Kd.R_append k77 (w0 := w) w.heap.size rfl (.tmp 38) (.tmp 44) 74 77 (.agg #[(.int .i64 0), (.int .i64 0)]) 16 rfl Tryz.underlying74 info77 rfl (by decide) (by omega) (.slice Ao18 x3_1.length co18) x3_1 (⟨rd l0 x4_1, 1⟩ : S77) [.int .i64 (rd l0 x4_1), .int .i64 1] (fun _ => True) (fun _ => False) rfl rfl ?aP (fun _ hk => hk.elim) ?aF ?aO ?aB ?aS ?aL ?_; (case aP => exact k77_mkM _ _ _ (⟨rd l0 x4_1, 1⟩ : S77)); (case aB => exact (BU HB.out)); (case aF => exact (fun _ _ => trivial)); (case aO => exact (RU HO_3.out)); (case aS => exact (below_size (BU HB.out))); (case aL => have := LMc17.out; omega); intro v635 w19 ho hb hg hat; rw [← Ny634.out] at ho; have n0_ := Aside0.mk (hb); have n1_ := Aside0.mk (ho); clear HB HO_3; have HB := n0_; have HO636 := n1_; clear n0_ n1_; clear ho hb hg hat)))
       go_roundg k1
       case measure => have := HK1.out; omega
       case rel => exact ⟨(y634), (wrap64 (x4_1 + 1)), EB, H', ⟨by have := HK1.out; omega⟩, ⟨RU HO636.out⟩, ⟨BU HB.out⟩⟩
      ·rw [if_neg c17] at H
       exact absurd H (by simp)
     ·rw [if_neg c16] at H
      exact absurd H (by simp)
   ·rw [if_neg c2] at H
    have c2b0 : decide (x4_1 < (l0.length : Int)) = false := decide_eq_false c2
    clear c2
    obtain rfl := Option.some.inj H
    go_wp2
    repeat (go_quiet (fail); try go_wp2)
    go_ret
    exact ⟨_, by first | rfl | (simp [errW_none, errW_some] <;> rfl) | (simp [*, errW_none, errW_some] <;> rfl), RU HO_3.out, BU HB.out⟩

/-! ### estreatref09_Put: function 27 -/
def estreatref09_Put.l0 : Nat → List Int → List (S77) → Int → Option (List Int)
 | 0, _, _, _ => none
 | k + 1, x3, x4, x5 => if x5 < (x4.length : Int) then (if 0 ≤ x5 then ((estreatref01_Var.f k (IntKind.u64.wrap (wrap64 (((rd_T77 x4 x5).f1) - 1)))).bind fun t641 => (if x3.length + t641.length < 140737488355328 then ((some (x3 ++ t641 : List Int)).bind fun y644 => ((estreatref01_Zig.f ((rd_T77 x4 x5).f0)).bind fun t648 => ((estreatref01_Var.f k t648).bind fun t649 => (if y644.length + t649.length < 140737488355328 then (estreatref09_Put.l0 k (y644 ++ t649) x4 (wrap64 (x5 + 1))) else (none))))) else (none))) else (none)) else (some x3)
def estreatref09_Put.f (k : Nat) (l0 : List Int) : Option (List Int) := (estreatref09_Runs.f k l0).bind fun t637 => (estreatref09_Put.l0 k ([] : List Int) t637 0)
set_option maxHeartbeats 8000000 in
set_option maxRecDepth 100000 in
theorem estreatref09_Put.calls (k : Nat) (A0 : Option Addr) (c0 : Nat) (l0 : List Int) (r : List Int) (w : World) (hr0 : Kd.C (Kd.int .i64) w A0 l0.length l0) (hc0 : l0.length ≤ c0) (h : estreatref09_Put.f k l0 = some r) :
  Calls Tryz.prog 27 #[.slice A0 l0.length c0] w fun e w' => ∃ v0_ : Value, e = .returned (v0_) ∧ Kd.R (Kd.int .u8) 5 w' w.heap.size (fun _ => True) v0_ r ∧ Below w.heap.size w w' := by
 have HR0 := Aside0.mk hr0
 have HC0 := Aside0.mk hc0
 clear hr0 hc0
 have HB := Aside0.mk (Below.refl w.heap.size w)
 have H : ((estreatref09_Runs.f k l0).bind fun t637 => (estreatref09_Put.l0 k ([] : List Int) t637 0)) = some r := h
 clear h
 replace H := Option.bind_eq_some_iff.mp H
 obtain ⟨t637, A20, H⟩ := H
 replace H : (estreatref09_Put.l0 k ([] : List Int) t637 0) = some r := H
 have A2 := Aside0.mk A20
 clear A20
 have H' := Aside0.mk H
 clear H
 go_enter Tryz.func27, Tryz.ntmps27
 go_wp2_with (first | ((with_reducible refine gate_callee (f := 56) rfl ?_); refine goesL_ (some 7) rfl rfl Tryz.func56 (by kernel_rfl) rfl #[.slice A0 l0.length c0] rfl EA ?_; (with_reducible refine (estreatref09_Runs.calls k _ _ l0 t637 _ ?side1 ?side2 A2.out).mono ?_); (case side1 => exact CU HR0.out); (case side2 => exact HC0.out); rintro e w3 ⟨v638, rfl, ho0, hb⟩; refine ⟨_, rfl, ?_⟩; have n0_ := Aside0.mk (Kd.R_lower ho0 (below_size (BU HB.out))); have n1_ := Aside0.mk (below_step (BU HB.out) hb); clear HB; have HO639 := n0_; have HB := n1_; clear n0_ n1_; (try clear hb); (try clear hb2); (try clear hk); (try clear hi); (try clear ho0)))
 go_loopg [3, 5] k (fun kq v3 v5 w' => ∃ (x3_1 : List Int) (x5_1 : Int), v5 = .int .i64 x5_1 ∧ Aside0 (estreatref09_Put.l0 kq x3_1 t637 x5_1 = some r) ∧ Aside0 (kq ≤ k) ∧ Aside0 (Kd.R (Kd.int .u8) 5 w' w.heap.size (fun _ => True) v3 x3_1) ∧ Aside0 (Kd.R k77 77 w' w.heap.size (fun _ => True) v638 t637) ∧ Aside0 (Below w.heap.size w w'))
 case atStart => exact ⟨(([] : List Int)), (0), EB, H', ⟨Nat.le_refl _⟩, ⟨by first | exact Kd.R_nil _ _ _ _ _ | exact Kd.N_nil _ _ _ _ _ | exact Kd.V_nil _ _ _ _ _ | exact Kd.Q_nil _ _ _ _ _ | exact Kd.S_nil _ _ _ _ _⟩, ⟨RU HO639.out⟩, ⟨BU HB.out⟩⟩
 case round =>
  clear H'
  try clear c2
  try clear p2
  obtain ⟨x3_1, x5_1, rfl, HA, HK1, HO_3, HO_4, HB⟩ := hrel
  cases gk with
  | zero => exact absurd HA.out (by simp [estreatref09_Put.l0])
  | succ k1 =>
   have H := HA.out
   clear HA
   simp only [estreatref09_Put.l0] at H
   by_cases c4 : x5_1 < (t637.length : Int)
   ·rw [if_pos c4] at H
    have c4b0 : decide (x5_1 < (t637.length : Int)) = true := decide_eq_true c4
    clear c4
    by_cases c5 : 0 ≤ x5_1
    ·rw [if_pos c5] at H
     have c5b0 : decide (0 ≤ x5_1) = true := decide_eq_true c5
     clear c5
     replace H := Option.bind_eq_some_iff.mp H
     obtain ⟨t641, A60, H⟩ := H
     replace H : (if x3_1.length + t641.length < 140737488355328 then ((some (x3_1 ++ t641 : List Int)).bind fun y644 => ((estreatref01_Zig.f ((rd_T77 t637 x5_1).f0)).bind fun t648 => ((estreatref01_Var.f k1 t648).bind fun t649 => (if y644.length + t649.length < 140737488355328 then (estreatref09_Put.l0 k1 (y644 ++ t649) t637 (wrap64 (x5_1 + 1))) else (none))))) else (none)) = some r := H
     have A6 := Aside0.mk A60
     clear A60
     by_cases c7 : x3_1.length + t641.length < 140737488355328
     ·rw [if_pos c7] at H
      have LMc7 := Aside0.mk c7
      clear c7
      obtain ⟨y644, hy644⟩ : ∃ y_ : List Int, y_ = (x3_1 ++ t641) := ⟨_, rfl⟩
      replace H : ((estreatref01_Zig.f ((rd_T77 t637 x5_1).f0)).bind fun t648 => ((estreatref01_Var.f k1 t648).bind fun t649 => (if y644.length + t649.length < 140737488355328 then (estreatref09_Put.l0 k1 (y644 ++ t649) t637 (wrap64 (x5_1 + 1))) else (none)))) = some r := by first | (rw [hy644]; with_reducible exact H) | (have H2_ := (Option.bind_some _ _).symm.trans H; rw [hy644]; with_reducible exact H2_) | (have H2_ := (Option.bind_some _ _).symm.trans H; with_reducible exact H2_) | with_reducible exact H | (rw [hy644]; exact H) | exact H
      have Ny644 := Aside0.mk hy644
      clear hy644
      replace H := Option.bind_eq_some_iff.mp H
      obtain ⟨t648, A80, H⟩ := H
      replace H : ((estreatref01_Var.f k1 t648).bind fun t649 => (if y644.length + t649.length < 140737488355328 then (estreatref09_Put.l0 k1 (y644 ++ t649) t637 (wrap64 (x5_1 + 1))) else (none))) = some r := H
      have A8 := Aside0.mk A80
      clear A80
      replace H := Option.bind_eq_some_iff.mp H
      obtain ⟨t649, A90, H⟩ := H
      replace H : (if y644.length + t649.length < 140737488355328 then (estreatref09_Put.l0 k1 (y644 ++ t649) t637 (wrap64 (x5_1 + 1))) else (none)) = some r := H
      have A9 := Aside0.mk A90
      clear A90
      by_cases c10 : y644.length + t649.length < 140737488355328
      ·rw [if_pos c10] at H
       have LMc10 := Aside0.mk c10
       clear c10
       obtain ⟨y652, hy652⟩ : ∃ y_ : List Int, y_ = (y644 ++ t649) := ⟨_, rfl⟩
       replace H : (estreatref09_Put.l0 k1 y652 t637 (wrap64 (x5_1 + 1))) = some r := by first | (rw [hy652]; with_reducible exact H) | (have H2_ := (Option.bind_some _ _).symm.trans H; rw [hy652]; with_reducible exact H2_) | (have H2_ := (Option.bind_some _ _).symm.trans H; with_reducible exact H2_) | with_reducible exact H | (rw [hy652]; exact H) | exact H
       have Ny652 := Aside0.mk hy652
       clear hy652
       have H' := Aside0.mk H
       clear H
       obtain ⟨Ao11, co11, eo11⟩ := Kd.R_slice HO_4.out
       subst eo11
       have p640 : 0 ≤ (x5_1 : Int) := OD
       have q640 : x5_1 < (t637.length : Int) := OD
       obtain ⟨ad640, e640, hx640_0, hx640_1⟩ := at_T77 (Kd.R_reads' HO_4.out).2.2 x5_1 p640 q640
       cases e640
       replace p640 := eq_true p640
       replace q640 := eq_true q640
       go_wp2_with (first | ((with_reducible refine gate_callee (f := 54) rfl ?_); refine goesL_ (some 22) rfl rfl Tryz.func54 (by kernel_rfl) rfl #[.int .u64 (IntKind.u64.wrap (wrap64 (((rd_T77 t637 x5_1).f1) - 1)))] rfl EA ?_; (with_reducible refine (estreatref01_Var.calls k1 (IntKind.u64.wrap (wrap64 (((rd_T77 t637 x5_1).f1) - 1))) t641 _ A6.out).mono ?_); rintro e w12 ⟨v642, rfl, ho0, hb⟩; refine ⟨_, rfl, ?_⟩; have n0_ := Aside0.mk (Kd.R_elder' (RU HO_3.out) (Kd.R_base ho0) hb); have n1_ := Aside0.mk (Kd.R_below (RU HO_4.out) hb); have n2_ := Aside0.mk (Kd.R_lower (Kd.R_new' ho0 (Kd.R_lt (RU HO_3.out))) (below_size (BU HB.out))); have n3_ := Aside0.mk (below_step (BU HB.out) hb); clear HO_3 HO_4 HB; have HO_3 := n0_; have HO_4 := n1_; have HO643 := n2_; have HB := n3_; clear n0_ n1_ n2_ n3_; (try clear hb); (try clear hb2); (try clear hk); (try clear hi); (try clear ho0); obtain ⟨Ao14, co14, eo14⟩ := Kd.R_slice HO643.out; subst eo14) | ((with_reducible refine gate_builtin (b := .append) (xs := #[.tmp 14, .tmp 22]) rfl ?_); at_builtin; refine Kd.R_append_rows (Kd.int .u8) (w0 := w) w.heap.size rfl (.tmp 14) (.tmp 22) 25 5 (.int .u8 0) 1 rfl Tryz.underlying25 info5 rfl (by decide) (by omega) u3 x3_1 t641 _ _ _ (fun k_ => some k_ ≠ (.slice Ao14 t641.length co14 : Value).ownBlock) (fun _ => False) rfl rfl ?aO ?aR (fun _ _ h => h) (fun _ h => h.elim) ?aF ?aB ?aS ?aL ?_; (case aR => exact CU ((Kd.R_reads' HO643.out).2.2)); (case aB => exact (BU HB.out)); (case aF => exact (fun k_ hk => Kd.fresh' (Kd.R_lt (RU HO643.out)) k_ hk)); (case aO => exact (RU (Kd.R_mono HO_3.out (fun _ hk => hk.2)))); (case aS => exact (below_size (BU HB.out))); (case aL => have := LMc7.out; omega); intro v645 w13 ho hb hg hat; rw [← Ny644.out] at ho; have n0_ := Aside0.mk (Kd.R_over' (RU HO_4.out) (Kd.R_typed (RU HO_3.out)) (by decide) hg); have n1_ := Aside0.mk (Kd.R_after (ok := (fun _ => True)) (RU HO643.out) hg hat); have n2_ := Aside0.mk (hb); have n3_ := Aside0.mk (ho); clear HO_4 HO643 HB HO_3; have HO_4 := n0_; have HO643 := n1_; have HB := n2_; have HO646 := n3_; clear n0_ n1_ n2_ n3_; clear ho hb hg hat; have p647 : 0 ≤ (x5_1 : Int) := OD; have q647 : x5_1 < (t637.length : Int) := OD; obtain ⟨ad647, e647, hx647_0, hx647_1⟩ := at_T77 (Kd.R_reads' HO_4.out).2.2 x5_1 p647 q647; obtain rfl : ad640 = ad647 := (by injection e647); replace p647 := eq_true p647; replace q647 := eq_true q647) | ((with_reducible refine gate_callee (f := 55) rfl ?_); refine goesL_ (some 30) rfl rfl Tryz.func55 (by kernel_rfl) rfl #[.int .i64 ((rd_T77 t637 x5_1).f0)] rfl EA ?_; (with_reducible refine (estreatref01_Zig.calls ((rd_T77 t637 x5_1).f0) t648 _ A8.out).mono ?_); rintro e w' ⟨rfl, ⟨nd, rfl⟩⟩; refine ⟨_, rfl, ?_⟩) | ((with_reducible refine gate_callee (f := 54) rfl ?_); refine goesL_ (some 31) rfl rfl Tryz.func54 (by kernel_rfl) rfl #[.int .u64 t648] rfl EA ?_; (with_reducible refine (estreatref01_Var.calls k1 t648 t649 _ A9.out).mono ?_); rintro e w15 ⟨v650, rfl, ho0, hb⟩; refine ⟨_, rfl, ?_⟩; have n0_ := Aside0.mk (Kd.R_below (RU HO_4.out) hb); have n1_ := Aside0.mk (Kd.R_elder' (RU HO643.out) (Kd.R_base ho0) hb); have n2_ := Aside0.mk (Kd.R_elder' (RU HO646.out) (Kd.R_base ho0) hb); have n3_ := Aside0.mk (Kd.R_lower (Kd.R_new' (Kd.R_new' ho0 (Kd.R_lt (RU HO643.out))) (Kd.R_lt (RU HO646.out))) (below_size (BU HB.out))); have n4_ := Aside0.mk (below_step (BU HB.out) hb); clear HO_4 HO643 HO646 HB; have HO_4 := n0_; have HO643 := n1_; have HO646 := n2_; have HO651 := n3_; have HB := n4_; clear n0_ n1_ n2_ n3_ n4_; (try clear hb); (try clear hb2); (try clear hk); (try clear hi); (try clear ho0); obtain ⟨Ao17, co17, eo17⟩ := Kd.R_slice HO651.out; subst eo17) | ((with_reducible refine gate_builtin (b := .append) (xs := #[.tmp 24, .tmp 31]) rfl ?_); at_builtin; refine Kd.R_append_rows (Kd.int .u8) (w0 := w) w.heap.size rfl (.tmp 24) (.tmp 31) 25 5 (.int .u8 0) 1 rfl Tryz.underlying25 info5 rfl (by decide) (by omega) v645 y644 t649 _ _ _ (fun k_ => some k_ ≠ (.slice Ao14 t641.length co14 : Value).ownBlock ∧ some k_ ≠ (.slice Ao17 t649.length co17 : Value).ownBlock) (fun _ => False) rfl rfl ?aO ?aR (fun _ _ h => h) (fun _ h => h.elim) ?aF ?aB ?aS ?aL ?_; (case aR => exact CU ((Kd.R_reads' HO651.out).2.2)); (case aB => exact (BU HB.out)); (case aF => exact (fun k_ hk => ⟨Kd.fresh' (Kd.R_lt (RU HO643.out)) k_ hk, Kd.fresh' (Kd.R_lt (RU HO651.out)) k_ hk⟩)); (case aO => exact (RU HO646.out)); (case aS => exact (below_size (BU HB.out))); (case aL => have := LMc10.out; omega); intro v653 w16 ho hb hg hat; rw [← Ny652.out] at ho; have n0_ := Aside0.mk (Kd.R_over' (RU HO_4.out) (Kd.R_typed (RU HO646.out)) (by decide) hg); have n1_ := Aside0.mk (Kd.R_after (ok := (fun k_ => some k_ ≠ (.slice Ao17 t649.length co17 : Value).ownBlock)) (RU (Kd.R_mono HO643.out (fun _ hk => ⟨hk.2, hk.1.2⟩))) hg hat); have n2_ := Aside0.mk (Kd.R_after (ok := (fun k_ => some k_ ≠ (.slice Ao14 t641.length co14 : Value).ownBlock)) (RU (Kd.R_mono HO651.out (fun _ hk => ⟨hk.1.2, hk.2⟩))) hg hat); have n3_ := Aside0.mk (hb); have n4_ := Aside0.mk (ho); clear HO_4 HO643 HO651 HB HO646; have HO_4 := n0_; have HO643 := n1_; have HO651 := n2_; have HB := n3_; have HO654 := n4_; clear n0_ n1_ n2_ n3_ n4_; clear ho hb hg hat))
       go_roundg k1
       case measure => have := HK1.out; omega
       case rel => exact ⟨(y652), (wrap64 (x5_1 + 1)), EB, H', ⟨by have := HK1.out; omega⟩, ⟨RU (Kd.R_mono HO654.out (fun _ hk => trivial))⟩, ⟨RU HO_4.out⟩, ⟨BU HB.out⟩⟩
      ·rw [if_neg c10] at H
       exact absurd H (by simp)
     ·rw [if_neg c7] at H
      exact absurd H (by simp)
    ·rw [if_neg c5] at H
     exact absurd H (by simp)
   ·rw [if_neg c4] at H
    have c4b0 : decide (x5_1 < (t637.length : Int)) = false := decide_eq_false c4
    clear c4
    obtain rfl := Option.some.inj H
    obtain ⟨Ao18, co18, eo18⟩ := Kd.R_slice HO_4.out
    subst eo18
    go_wp2
    go_ret
    exact ⟨_, by first | rfl | (simp [errW_none, errW_some] <;> rfl) | (simp [*, errW_none, errW_some] <;> rfl), RU HO_3.out, BU HB.out⟩

/-! ### estreatref10_Steps: function 57 -/
def estreatref10_Steps.l0 : Nat → List Int → List Int → Int → Option (List Int)
 | 0, _, _, _ => none
 | k + 1, x0, x3, x4 => if x4 < (x0.length : Int) then (if x4 = 0 then (if 0 < (x0.length : Int) then (if x3.length < 17592186044416 then (estreatref10_Steps.l0 k x0 (x3 ++ [rd x0 0]) (wrap64 (x4 + 1))) else (none)) else (none)) else (if 0 ≤ x4 then (if 0 ≤ (wrap64 (x4 - 1)) then (if (wrap64 (x4 - 1)) < (x0.length : Int) then (if x3.length < 17592186044416 then (estreatref10_Steps.l0 k x0 (x3 ++ [wrap64 ((rd x0 x4) - (rd x0 (wrap64 (x4 - 1))))]) (wrap64 (x4 + 1))) else (none)) else (none)) else (none)) else (none))) else (some x3)
def estreatref10_Steps.f (k : Nat) (l0 : List Int) : Option (List Int) := estreatref10_Steps.l0 k l0 ([] : List Int) 0
def estreatref10_Steps.T7 : Bool × List (List Nat × List Nat) := (true, [([], []), ([], []), ([], []), ([1, 2], [1, 2]), ([3], [3]), ([], []), ([], []), ([6], [6]), ([5, 7], [5, 7]), ([8], [8]), ([4, 9], [4, 9]), ([10], [10]), ([0, 11], [0, 11]), ([12, 12, 0, 1, 2, 3, 4, 5, 6, 7, 8, 9, 10, 11, 12], [0, 12])])
def estreatref10_Steps.B7 : List Nat := [0, 0, 0, 6, 14, 0, 0, 64, 224, 480, 1022, 2046, 4095, 8191]
theorem estreatref10_Steps.tab7 : rtab .any (opsOf Tryz.f57 7) = estreatref10_Steps.T7 := by kernel_rfl
theorem estreatref10_Steps.bits7 : waitsOk estreatref10_Steps.T7.2 estreatref10_Steps.B7 = true := by kernel_rfl
set_option maxHeartbeats 8000000 in
set_option maxRecDepth 100000 in
theorem estreatref10_Steps.calls (k : Nat) (A0 : Option Addr) (c0 : Nat) (l0 : List Int) (r : List Int) (w : World) (hr0 : Kd.C (Kd.int .i64) w A0 l0.length l0) (hc0 : l0.length ≤ c0) (h : estreatref10_Steps.f k l0 = some r) :
  Calls Tryz.prog 57 #[.slice A0 l0.length c0] w fun e w' => ∃ v0_ : Value, e = .returned (v0_) ∧ Kd.R (Kd.int .i64) 2 w' w.heap.size (fun _ => True) v0_ r ∧ Below w.heap.size w w' := by
 have HR0 := Aside0.mk hr0
 have HC0 := Aside0.mk hc0
 clear hr0 hc0
 have HB := Aside0.mk (Below.refl w.heap.size w)
 have H : (estreatref10_Steps.l0 k l0 ([] : List Int) 0) = some r := h
 clear h
 have H' := Aside0.mk H
 clear H
 go_enter Tryz.func57, Tryz.ntmps57
 go_wp2
 go_loopg [3, 4] k (fun kq v3 v4 w' => ∃ (x3_1 : List Int) (x4_1 : Int), v4 = .int .i64 x4_1 ∧ Aside0 (estreatref10_Steps.l0 kq l0 x3_1 x4_1 = some r) ∧ Aside0 (kq ≤ k) ∧ Aside0 (Kd.R (Kd.int .i64) 2 w' w.heap.size (fun _ => True) v3 x3_1) ∧ Aside0 (Below w.heap.size w w'))
 case atStart => exact ⟨(([] : List Int)), (0), EB, H', ⟨Nat.le_refl _⟩, ⟨by first | exact Kd.R_nil _ _ _ _ _ | exact Kd.N_nil _ _ _ _ _ | exact Kd.V_nil _ _ _ _ _ | exact Kd.Q_nil _ _ _ _ _ | exact Kd.S_nil _ _ _ _ _⟩, ⟨BU HB.out⟩⟩
 case round =>
  clear H'
  obtain ⟨x3_1, x4_1, rfl, HA, HK1, HO_3, HB⟩ := hrel
  cases gk with
  | zero => exact absurd HA.out (by simp [estreatref10_Steps.l0])
  | succ k1 =>
   have H := HA.out
   clear HA
   simp only [estreatref10_Steps.l0] at H
   by_cases c2 : x4_1 < (l0.length : Int)
   ·rw [if_pos c2] at H
    have c2b0 : decide (x4_1 < (l0.length : Int)) = true := decide_eq_true c2
    clear c2
    by_cases c3 : x4_1 = 0
    ·rw [if_pos c3] at H
     have c3b0 : (x4_1 == 0) = true := beq_iff_eq.mpr c3
     have c3b1 : (x4_1 != 0) = false := bne_eq_false_iff_eq.mpr c3
     clear c3
     by_cases c4 : 0 < (l0.length : Int)
     ·rw [if_pos c4] at H
      have c4b0 : decide (0 < (l0.length : Int)) = true := decide_eq_true c4
      have c4b1 : decide (0 < l0.length) = true := decide_eq_true (by omega)
      clear c4
      by_cases c5 : x3_1.length < 17592186044416
      ·rw [if_pos c5] at H
       have LMc5 := Aside0.mk c5
       clear c5
       obtain ⟨y656, hy656⟩ : ∃ y_ : List Int, y_ = (x3_1 ++ [rd l0 0]) := ⟨_, rfl⟩
       replace H : (estreatref10_Steps.l0 k1 l0 y656 (wrap64 (x4_1 + 1))) = some r := by first | (rw [hy656]; with_reducible exact H) | (have H2_ := (Option.bind_some _ _).symm.trans H; rw [hy656]; with_reducible exact H2_) | (have H2_ := (Option.bind_some _ _).symm.trans H; with_reducible exact H2_) | with_reducible exact H | (rw [hy656]; exact H) | exact H
       have Ny656 := Aside0.mk hy656
       clear hy656
       have H' := Aside0.mk H
       clear H
       have p655 : 0 ≤ (0 : Int) := (by omega)
       have q655 : 0 < (l0.length : Int) := OD
       obtain ⟨ad655, e655, hx655_0⟩ := Kd.at_int HR0.out 0 p655 q655
       cases e655
       have qi655 : (0 < l0.length) = True := eq_true (by omega)
       (try rw [show ((0 : Int)).toNat = 0 from rfl] at hx655_0)
       (try rw [Addr.add_zero'] at hx655_0)
       replace hx655_0 := (HB.out.cell (World.block_lt_of_cell? w _ hx655_0)).trans hx655_0
       replace p655 := eq_true p655
       replace q655 := eq_true q655
       go_wp2_with (first | ((with_reducible refine gate_builtin (b := .append) (xs := #[.tmp 13, .tmp 17]) rfl ?_); at_builtin; refine Kd.R_append (Kd.int .i64) (w0 := w) w.heap.size rfl (.tmp 13) (.tmp 17) 41 2 (.int .i64 0) 8 rfl Tryz.underlying41 info2 rfl (by decide) (by omega) u3 x3_1 (rd l0 0) [.int .i64 (rd l0 0)] (fun _ => True) (fun _ => False) rfl rfl ?aP (fun _ hk => hk.elim) ?aF ?aO ?aB ?aS ?aL ?_; (case aP => exact rfl); (case aB => exact (BU HB.out)); (case aF => exact (fun _ _ => trivial)); (case aO => exact (RU HO_3.out)); (case aS => exact (below_size (BU HB.out))); (case aL => have := LMc5.out; omega); intro v657 w6 ho hb hg hat; rw [← Ny656.out] at ho; have n0_ := Aside0.mk (hb); have n1_ := Aside0.mk (ho); clear HB HO_3; have HB := n0_; have HO658 := n1_; clear n0_ n1_; clear ho hb hg hat))
       go_roundg k1
       case measure => have := HK1.out; omega
       case rel => exact ⟨(y656), (wrap64 (x4_1 + 1)), EB, H', ⟨by have := HK1.out; omega⟩, ⟨RU HO658.out⟩, ⟨BU HB.out⟩⟩
      ·rw [if_neg c5] at H
       exact absurd H (by simp)
     ·rw [if_neg c4] at H
      exact absurd H (by simp)
    ·rw [if_neg c3] at H
     have c3b0 : (x4_1 == 0) = false := beq_eq_false_iff_ne.mpr c3
     have c3b1 : (x4_1 != 0) = true := bne_iff_ne.mpr c3
     by_cases c7 : 0 ≤ x4_1
     ·rw [if_pos c7] at H
      have c7b0 : decide (0 ≤ x4_1) = true := decide_eq_true c7
      clear c7
      obtain ⟨ji8, hji8⟩ : ∃ j_ : Int, (wrap64 (x4_1 - 1)) = j_ := ⟨_, rfl⟩
      replace H : (if 0 ≤ (ji8) then (if (ji8) < (l0.length : Int) then (if x3_1.length < 17592186044416 then (estreatref10_Steps.l0 k1 l0 (x3_1 ++ [wrap64 ((rd l0 x4_1) - (rd l0 (ji8)))]) (wrap64 (x4_1 + 1))) else (none)) else (none)) else (none)) = some r := by first | (rw [hji8] at H; exact H) | (simp only [hji8] at H ⊢; exact H)
      have hji8w : (IntKind.i64.wrap (x4_1 - 1)) = ji8 := (i64_w _).trans hji8
      by_cases c9 : 0 ≤ (ji8)
      ·rw [if_pos c9] at H
       have c9b0 : decide (0 ≤ (ji8)) = true := decide_eq_true c9
       clear c9
       by_cases c10 : (ji8) < (l0.length : Int)
       ·rw [if_pos c10] at H
        have c10b0 : decide ((ji8) < (l0.length : Int)) = true := decide_eq_true c10
        clear c10
        by_cases c11 : x3_1.length < 17592186044416
        ·rw [if_pos c11] at H
         have LMc11 := Aside0.mk c11
         clear c11
         obtain ⟨y661, hy661⟩ : ∃ y_ : List Int, y_ = (x3_1 ++ [wrap64 ((rd l0 x4_1) - (rd l0 (ji8)))]) := ⟨_, rfl⟩
         replace H : (estreatref10_Steps.l0 k1 l0 y661 (wrap64 (x4_1 + 1))) = some r := by first | (rw [hy661]; with_reducible exact H) | (have H2_ := (Option.bind_some _ _).symm.trans H; rw [hy661]; with_reducible exact H2_) | (have H2_ := (Option.bind_some _ _).symm.trans H; with_reducible exact H2_) | with_reducible exact H | (rw [hy661]; exact H) | exact H
         have Ny661 := Aside0.mk hy661
         clear hy661
         have H' := Aside0.mk H
         clear H
         try go_wp2
         have n0_ := Aside0.mk (Kd.R_drew HO_3.out)
         have n1_ := Aside0.mk (below_drew1 HB.out)
         clear HO_3
         clear HB
         have HO_3 := n0_
         have HB := n1_
         clear n0_ n1_
         have p659 : 0 ≤ (x4_1 : Int) := OD
         have q659 : x4_1 < (l0.length : Int) := OD
         obtain ⟨ad659, e659, hx659_0⟩ := Kd.at_int HR0.out x4_1 p659 q659
         have hw659_0 := hx659_0
         cases e659
         replace hx659_0 := (HB.out.cell (World.block_lt_of_cell? w _ hx659_0)).trans hx659_0
         replace p659 := eq_true p659
         replace q659 := eq_true q659
         have p660 : 0 ≤ ((ji8) : Int) := OD
         have q660 : (ji8) < (l0.length : Int) := OD
         obtain ⟨ad660, e660, hx660_0⟩ := Kd.at_int HR0.out (ji8) p660 q660
         have hw660_0 := hx660_0
         obtain rfl : ad659 = ad660 := (by injection e660)
         replace hx660_0 := (HB.out.cell (World.block_lt_of_cell? w _ hx660_0)).trans hx660_0
         replace p660 := eq_true p660
         replace q660 := eq_true q660
         refine start_ (n := 14) (S := fun w' => w'.cell? (ad659.add (x4_1).toNat) = some (.int .i64 (rd l0 x4_1)) ∧ w'.cell? (ad659.add ((ji8)).toNat) = some (.int .i64 (rd l0 (ji8)))) (ds := []) #[false, false, false, false, false, false, false, false, false, false, false, false, false, false] (by kernel_rfl) rfl rfl ⟨((HB.out.cell (World.block_lt_of_cell? w _ hw659_0)).trans hw659_0), ((HB.out.cell (World.block_lt_of_cell? w _ hw660_0)).trans hw660_0)⟩ (fun hHeld => ?_); refine with_tabW estreatref10_Steps.tab7 estreatref10_Steps.bits7 (fun HT_ HW_ => ?_)
         generalize wr.drew = w12 at HO_3 HB hx659_0 hx660_0 hHeld ⊢
         refine pure_ (i := 0) (N := some 19) (v := ?_) (a' := ?_) #[true, false, false, false, false, false, false, false, false, false, false, false, false, false] rfl rfl (any_of HT_.out (by kernel_rfl)) (fun _ _ _ h => h) (Or.inl ⟨by rfl, ?_⟩) ?_ ?_
         rotate_left
         ·intro w'
          go_simp
          with_reducible rfl
         rotate_left
         ·simp only [Act.put, List.setIfInBounds_toArray, List.set_cons_zero, List.set_cons_succ, i64_w, i32_w]
          rfl
         refine pure_ (i := 1) (N := some 20) (v := ?_) (a' := ?_) #[true, true, false, false, false, false, false, false, false, false, false, false, false, false] rfl rfl (any_of HT_.out (by kernel_rfl)) (fun _ _ _ h => h) (Or.inl ⟨by rfl, ?_⟩) ?_ ?_
         rotate_left
         ·intro w'
          go_simp
          with_reducible rfl
         rotate_left
         ·simp only [Act.put, List.setIfInBounds_toArray, List.set_cons_zero, List.set_cons_succ, i64_w, i32_w]
          rfl
         refine pure_ (i := 2) (N := some 21) (v := ?_) (a' := ?_) #[true, true, true, false, false, false, false, false, false, false, false, false, false, false] rfl rfl (any_of HT_.out (by kernel_rfl)) (fun _ _ _ h => h) (Or.inl ⟨by rfl, ?_⟩) ?_ ?_
         rotate_left
         ·intro w'
          go_simp
          with_reducible rfl
         rotate_left
         ·simp only [Act.put, List.setIfInBounds_toArray, List.set_cons_zero, List.set_cons_succ, i64_w, i32_w]
          rfl
         refine pure_ (i := 3) (N := some 22) (v := ?_) (a' := ?_) #[true, true, true, true, false, false, false, false, false, false, false, false, false, false] rfl rfl (any_of HT_.out (by kernel_rfl)) (fun _ _ _ h => h) (Or.inl ⟨by rfl, ?_⟩) ?_ ?_
         rotate_left
         ·intro w'
          go_simp
          with_reducible rfl
         rotate_left
         ·simp only [Act.put, List.setIfInBounds_toArray, List.set_cons_zero, List.set_cons_succ, i64_w, i32_w]
          rfl
         refine pure_ (i := 5) (N := some 24) (v := ?_) (a' := ?_) #[true, true, true, true, false, true, false, false, false, false, false, false, false, false] rfl rfl (any_of HT_.out (by kernel_rfl)) (fun _ _ _ h => h) (Or.inl ⟨by rfl, ?_⟩) ?_ ?_
         rotate_left
         ·intro w'
          go_simp
          with_reducible rfl
         rotate_left
         ·simp only [Act.put, List.setIfInBounds_toArray, List.set_cons_zero, List.set_cons_succ, i64_w, i32_w]
          rfl
         refine pure_ (i := 6) (N := some 25) (v := ?_) (a' := ?_) #[true, true, true, true, false, true, true, false, false, false, false, false, false, false] rfl rfl (any_of HT_.out (by kernel_rfl)) (fun _ _ _ h => h) (Or.inl ⟨by rfl, ?_⟩) ?_ ?_
         rotate_left
         ·intro w'
          go_simp
          with_reducible rfl
         rotate_left
         ·simp only [Act.put, List.setIfInBounds_toArray, List.set_cons_zero, List.set_cons_succ, i64_w, i32_w]
          rfl
         refine pure_ (i := 7) (N := some 26) (v := ?_) (a' := ?_) #[true, true, true, true, false, true, true, true, false, false, false, false, false, false] rfl rfl (any_of HT_.out (by kernel_rfl)) (fun _ _ _ h => h) (Or.inl ⟨by rfl, ?_⟩) ?_ ?_
         rotate_left
         ·intro w'
          go_simp
          with_reducible rfl
         rotate_left
         ·simp only [Act.put, List.setIfInBounds_toArray, List.set_cons_zero, List.set_cons_succ, i64_w, i32_w]
          rfl
         refine pure_ (i := 8) (N := some 27) (v := ?_) (a' := ?_) #[true, true, true, true, false, true, true, true, true, false, false, false, false, false] rfl rfl (any_of HT_.out (by kernel_rfl)) (fun _ _ _ h => h) (Or.inl ⟨by rfl, ?_⟩) ?_ ?_
         rotate_left
         ·intro w'
          go_simp
          with_reducible rfl
         rotate_left
         ·simp only [Act.put, List.setIfInBounds_toArray, List.set_cons_zero, List.set_cons_succ, i64_w, i32_w]
          rfl
         refine take_ (i := 4) (N := some 23) (v := ?_) (a' := ?_) #[true, true, true, true, true, true, true, true, true, false, false, false, false, false] rfl rfl (take_ofW HT_.out HW_.out (by kernel_rfl)) (fun _ _ _ h => h) (Or.inl ⟨by rfl, ?_⟩) hHeld ?_ ?_
         rotate_left
         ·rintro w' ⟨s0, s1⟩
          go_simp
          with_reducible rfl
         rotate_left
         ·simp only [Act.put, List.setIfInBounds_toArray, List.set_cons_zero, List.set_cons_succ, i64_w, i32_w]
          rfl
         refine take_ (i := 9) (N := some 28) (v := ?_) (a' := ?_) #[true, true, true, true, true, true, true, true, true, true, false, false, false, false] rfl rfl (take_ofW HT_.out HW_.out (by kernel_rfl)) (fun _ _ _ h => h) (Or.inl ⟨by rfl, ?_⟩) hHeld ?_ ?_
         rotate_left
         ·rintro w' ⟨s0, s1⟩
          go_simp
          with_reducible rfl
         rotate_left
         ·simp only [Act.put, List.setIfInBounds_toArray, List.set_cons_zero, List.set_cons_succ, i64_w, i32_w]
          rfl
         refine pure_ (i := 10) (N := some 29) (v := ?_) (a' := ?_) #[true, true, true, true, true, true, true, true, true, true, true, false, false, false] rfl rfl (any_of HT_.out (by kernel_rfl)) (fun _ _ _ h => h) (Or.inl ⟨by rfl, ?_⟩) ?_ ?_
         rotate_left
         ·intro w'
          go_simp
          with_reducible rfl
         rotate_left
         ·simp only [Act.put, List.setIfInBounds_toArray, List.set_cons_zero, List.set_cons_succ, i64_w, i32_w]
          rfl
         refine one_ (i := 11) (N := some 30) #[true, true, true, true, true, true, true, true, true, true, true, true, false, false] rfl rfl (one_of HT_.out (by kernel_rfl)) (by decide) (fun K hK => ?_)
         refine value_ (w1 := ?_) (v := ?_) (by rfl) rfl ?_ ?_
         rotate_left 2
         ·go_simp
          constructor
          ·rfl
          ·rfl
         refine hK.out _ _ ⟨(World.cell?_alloc_lt _ _ _ (World.block_lt_of_cell? _ _ (((HB.out.cell (World.block_lt_of_cell? w _ hw659_0)).trans hw659_0)))).trans (((HB.out.cell (World.block_lt_of_cell? w _ hw659_0)).trans hw659_0)), (World.cell?_alloc_lt _ _ _ (World.block_lt_of_cell? _ _ (((HB.out.cell (World.block_lt_of_cell? w _ hw660_0)).trans hw660_0)))).trans (((HB.out.cell (World.block_lt_of_cell? w _ hw660_0)).trans hw660_0))⟩ (fun hHeld => ?_)
         clear hK K
         refine norm_ (a' := ?_) ?_ ?_
         rotate_left
         ·show Act.put _ (some 30) _ = _
          simp only [Act.put, List.setIfInBounds_toArray, List.set_cons_zero, List.set_cons_succ, i64_w, i32_w]
          rfl
         refine one_ (i := 12) (N := some 31) #[true, true, true, true, true, true, true, true, true, true, true, true, true, false] rfl rfl (one_of HT_.out (by kernel_rfl)) (by decide) (fun K hK => ?_)
         refine Kd.R_append_step (Kd.int .i64) (w0 := w) w.heap.size (by rfl) (.tmp 19) (.tmp 30) 41 2 (.int .i64 0) 8 rfl Tryz.underlying41 info2 rfl (by decide) (by omega) u3 x3_1 (wrap64 ((rd l0 x4_1) - (rd l0 (ji8)))) [.int .i64 (wrap64 ((rd l0 x4_1) - (rd l0 (ji8))))] (fun _ => True) (fun _ => False) rfl rfl ?aP (fun _ hk => hk.elim) ?aF ?aO ?aB ?aS ?aL ?_
         (case aP => exact rfl)
         (case aB => exact (BU HB.out))
         (case aF => exact (fun _ _ => trivial))
         (case aO => exact (RU HO_3.out))
         (case aS => exact (below_size (BU HB.out)))
         (case aL => have := LMc11.out; omega)
         intro v662 w13 ho hb hg hat
         rw [← Ny661.out] at ho
         have n0_ := Aside0.mk (hb)
         have n1_ := Aside0.mk (ho)
         clear HB
         clear HO_3
         have HB := n0_
         have HO663 := n1_
         clear n0_ n1_
         clear ho hb hg hat
         refine hK.out _ _ ⟨((HB.out.cell (World.block_lt_of_cell? w _ hw659_0)).trans hw659_0), ((HB.out.cell (World.block_lt_of_cell? w _ hw660_0)).trans hw660_0)⟩ (fun hHeld => ?_)
         clear hK K
         refine norm_ (a' := ?_) ?_ ?_
         rotate_left
         ·show Act.put _ (some 31) _ = _
          simp only [Act.put, List.setIfInBounds_toArray, List.set_cons_zero, List.set_cons_succ, i64_w, i32_w]
          rfl
         refine pure_ (i := 13) (N := some 3) (v := ?_) (a' := ?_) #[true, true, true, true, true, true, true, true, true, true, true, true, true, true] rfl rfl (any_of HT_.out (by kernel_rfl)) (fun _ _ _ h => h) (Or.inl ⟨by rfl, ?_⟩) ?_ ?_
         rotate_left
         ·intro w'
          go_simp
          with_reducible rfl
         rotate_left
         ·simp only [Act.put, List.setIfInBounds_toArray, List.set_cons_zero, List.set_cons_succ, i64_w, i32_w]
          rfl
         refine done_ (done_of HT_.out (by kernel_rfl)) ?_
         try go_wp2
         go_roundg k1
         case measure => have := HK1.out; omega
         case rel => exact ⟨(y661), (wrap64 (x4_1 + 1)), EB, H', ⟨by have := HK1.out; omega⟩, ⟨RU HO663.out⟩, ⟨BU HB.out⟩⟩
        ·rw [if_neg c11] at H
         exact absurd H (by simp)
       ·rw [if_neg c10] at H
        exact absurd H (by simp)
      ·rw [if_neg c9] at H
       exact absurd H (by simp)
     ·rw [if_neg c7] at H
      exact absurd H (by simp)
   ·rw [if_neg c2] at H
    have c2b0 : decide (x4_1 < (l0.length : Int)) = false := decide_eq_false c2
    clear c2
    obtain rfl := Option.some.inj H
    go_wp2
    go_ret
    exact ⟨_, by first | rfl | (simp [errW_none, errW_some] <;> rfl) | (simp [*, errW_none, errW_some] <;> rfl), RU HO_3.out, BU HB.out⟩

end Go.Proofs.YtefcchpjbojdkaaGreatDoor.PChunkPuts
