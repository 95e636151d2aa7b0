/- WRITTEN BY A PROGRAM of this session (wip/tool: a turned copy of the printer), out of the translation: Lean functions with the answers of the Go functions, and the proofs that the Go code comes to them. -/
import Derived.Test.YtefcchpjbojdkaaGreatDoorPChunkPutsx0
import Derived.Test.YtefcchpjbojdkaaGreatDoorPChunkPutsx16
import Derived.Test.YtefcchpjbojdkaaGreatDoorPChunkPutsx18
import Derived.Test.YtefcchpjbojdkaaGreatDoorPChunkPutsx19
namespace Go.Proofs.YtefcchpjbojdkaaGreatDoor.PChunkPuts
open Go.RowKit Go.Proofs.YtefcchpjbojdkaaGreatDoorW.PrintWords Go.Proofs.YtefcchpjbojdkaaGreatDoorW.PrintLast Go.Proofs.YtefcchpjbojdkaaGreatDoorW.PrintMore
attribute [local go_sem] max2_int min2_int max_two min_two max_three min_three max_four min_four   -- for this text's walks alone
set_option linter.unusedVariables false
set_option linter.unusedSimpArgs false

/-! ### estreatref11_Put: function 29 -/
mutual
def estreatref11_Put.l0 : Nat → List Int → List Int → List Int → Int → Option (List Int)
 | 0, _, _, _, _ => none
 | k + 1, x0, x3, x4, x5 => if x5 < (x3.length : Int) then (if x5 = 0 then (if 0 < (x3.length : Int) then ((estreatref01_Zig.f (rd x3 0)).bind fun t731 => ((estreatref01_Var.f k t731).bind fun t732 => (if x4.length + t732.length < 140737488355328 then (estreatref11_Put.l0 k x0 x3 (x4 ++ t732) (wrap64 (x5 + 1))) else (none)))) else (none)) else (if 0 ≤ x5 then (if 0 ≤ (wrap64 (x5 - 1)) then (if (wrap64 (x5 - 1)) < (x3.length : Int) then ((estreatref01_Var.f k (IntKind.u64.wrap ((IntKind.u64.wrap ((IntKind.u64.wrap (rd x3 x5)) - (IntKind.u64.wrap (rd x3 (wrap64 (x5 - 1)))))) - 1))).bind fun t740 => (if x4.length + t740.length < 140737488355328 then (estreatref11_Put.l0 k x0 x3 (x4 ++ t740) (wrap64 (x5 + 1))) else (none))) else (none)) else (none)) else (none))) else (estreatref11_Put.l1 k x0 x3 x4 ([] : List Int) 0)
def estreatref11_Put.l1 : Nat → List Int → List Int → List Int → List Int → Int → Option (List Int)
 | 0, _, _, _, _, _ => none
 | k + 1, x0, x3, x4, x6, x7 => if x7 < (x0.length : Int) then (estreatref11_Put.l2 k x0 x3 x4 x6 x7 0) else ((estreatref11_Width.f k (x3.length : Int)).bind fun t746 => ((estreatref02_Pack.f k x6 t746).bind fun bt747 => (if x4.length < 140737488355328 then ((some (x4 ++ [(t746) % 256] : List Int)).bind fun y751 => (if y751.length + bt747.1.length < 140737488355328 then (some (y751 ++ bt747.1)) else (none))) else (none))))
def estreatref11_Put.l2 : Nat → List Int → List Int → List Int → List Int → Int → Int → Option (List Int)
 | 0, _, _, _, _, _, _ => none
 | k + 1, x0, x3, x4, x6, x7, x8 => if x8 < (x3.length : Int) then (if 0 ≤ x8 then (if 0 ≤ x7 then (if x7 < (x0.length : Int) then (if (rd x3 x8) = (rd x0 x7) then (if x6.length < 17592186044416 then (estreatref11_Put.l2 k x0 x3 x4 (x6 ++ [IntKind.u64.wrap (x8)]) x7 (wrap64 (x8 + 1))) else (none)) else (estreatref11_Put.l2 k x0 x3 x4 x6 x7 (wrap64 (x8 + 1)))) else (none)) else (none)) else (none)) else (estreatref11_Put.l1 k x0 x3 x4 x6 (wrap64 (x7 + 1)))
end
def estreatref11_Put.f (k : Nat) (l0 : List Int) : Option (List Int) := (estreatref11_List.f k l0).bind fun t724 => ((estreatref01_Var.f k (IntKind.u64.wrap ((t724.length : Int)))).bind fun t727 => (estreatref11_Put.l0 k l0 t724 t727 0))
def estreatref11_Put.T8 : Bool × List (List Nat × List Nat) := (true, [([], []), ([], []), ([], []), ([1, 2], [1, 2]), ([3], [3]), ([4], [4]), ([], []), ([], []), ([7], [7]), ([6, 8], [6, 8]), ([9], [9]), ([10], [10]), ([5, 11], [5, 11]), ([12], [12]), ([13], [13]), ([0, 14, 14], [0, 14]), ([15, 15, 0, 1, 2, 3, 4, 5, 6, 7, 8, 9, 10, 11, 12, 13, 14, 15], [0, 15])])
def estreatref11_Put.B8 : List Nat := [0, 0, 0, 6, 14, 30, 0, 0, 128, 448, 960, 1984, 4094, 8190, 16382, 32767, 65535]
theorem estreatref11_Put.tab8 : rtab .any (opsOf Tryz.f29 8) = estreatref11_Put.T8 := by kernel_rfl
theorem estreatref11_Put.bits8 : waitsOk estreatref11_Put.T8.2 estreatref11_Put.B8 = true := by kernel_rfl
def estreatref11_Put.T16 : Bool × List (List Nat × List Nat) := (true, [([], []), ([], []), ([0, 1], [0, 1]), ([2], [2]), ([], []), ([], []), ([4, 5], [4, 5]), ([6], [6]), ([3, 7], [3, 7])])
def estreatref11_Put.B16 : List Nat := [0, 0, 3, 7, 0, 0, 48, 112, 255]
theorem estreatref11_Put.tab16 : rtab .any (opsOf Tryz.f29 16) = estreatref11_Put.T16 := by kernel_rfl
theorem estreatref11_Put.bits16 : waitsOk estreatref11_Put.T16.2 estreatref11_Put.B16 = true := by kernel_rfl
set_option maxHeartbeats 8000000 in
set_option maxRecDepth 100000 in
theorem estreatref11_Put.calls (k : Nat) (A0 : Option Addr) (c0 : Nat) (l0 : List Int) (r : List Int) (w : World) (hr0 : Kd.C (Kd.int .i64) w A0 l0.length l0) (hc0 : l0.length ≤ c0) (h : estreatref11_Put.f k l0 = some r) :
  Calls Tryz.prog 29 #[.slice A0 l0.length c0] w fun e w' => ∃ v0_ : Value, e = .returned (v0_) ∧ Kd.R (Kd.int .u8) 5 w' w.heap.size (fun _ => True) v0_ r ∧ Below w.heap.size w w' := by
 have HR0 := Aside0.mk hr0
 have HC0 := Aside0.mk hc0
 clear hr0 hc0
 have HB := Aside0.mk (Below.refl w.heap.size w)
 have H : ((estreatref11_List.f k l0).bind fun t724 => ((estreatref01_Var.f k (IntKind.u64.wrap ((t724.length : Int)))).bind fun t727 => (estreatref11_Put.l0 k l0 t724 t727 0))) = some r := h
 clear h
 replace H := Option.bind_eq_some_iff.mp H
 obtain ⟨t724, A20, H⟩ := H
 replace H : ((estreatref01_Var.f k (IntKind.u64.wrap ((t724.length : Int)))).bind fun t727 => (estreatref11_Put.l0 k l0 t724 t727 0)) = some r := H
 have A2 := Aside0.mk A20
 clear A20
 replace H := Option.bind_eq_some_iff.mp H
 obtain ⟨t727, A30, H⟩ := H
 replace H : (estreatref11_Put.l0 k l0 t724 t727 0) = some r := H
 have A3 := Aside0.mk A30
 clear A30
 have H' := Aside0.mk H
 clear H
 go_enter Tryz.func29, Tryz.ntmps29
 go_wp2_with (first | ((with_reducible refine gate_callee (f := 60) rfl ?_); refine goesL_ (some 13) rfl rfl Tryz.func60 (by kernel_rfl) rfl #[.slice A0 l0.length c0] rfl EA ?_; (with_reducible refine (estreatref11_List.calls k _ _ l0 t724 _ ?side1 ?side2 A2.out).mono ?_); (case side1 => exact CU HR0.out); (case side2 => exact HC0.out); rintro e w4 ⟨v725, rfl, ho0, hb⟩; refine ⟨_, rfl, ?_⟩; have n0_ := Aside0.mk (Kd.R_lower ho0 (below_size (BU HB.out))); have n1_ := Aside0.mk (below_step (BU HB.out) hb); clear HB; have HO726 := n0_; have HB := n1_; clear n0_ n1_; (try clear hb); (try clear hb2); (try clear hk); (try clear hi); (try clear ho0); obtain ⟨Ao5, co5, eo5⟩ := Kd.R_slice HO726.out; subst eo5) | ((with_reducible refine gate_callee (f := 54) rfl ?_); refine goesL_ (some 17) rfl rfl Tryz.func54 (by kernel_rfl) rfl #[.int .u64 (IntKind.u64.wrap ((t724.length : Int)))] rfl EA ?_; (with_reducible refine (estreatref01_Var.calls k (IntKind.u64.wrap ((t724.length : Int))) t727 _ A3.out).mono ?_); rintro e w6 ⟨v728, rfl, ho0, hb⟩; refine ⟨_, rfl, ?_⟩; have n0_ := Aside0.mk (Kd.R_below (RU HO726.out) hb); have n1_ := Aside0.mk (Kd.R_lower ho0 (below_size (BU HB.out))); have n2_ := Aside0.mk (below_step (BU HB.out) hb); clear HO726 HB; have HO726 := n0_; have HO729 := n1_; have HB := n2_; clear n0_ n1_ n2_; (try clear hb); (try clear hb2); (try clear hk); (try clear hi); (try clear ho0)))
 go_loopg [4, 5] k (fun kq v4 v5 w' => ∃ (x4_1 : List Int) (x5_1 : Int), v5 = .int .i64 x5_1 ∧ Aside0 (estreatref11_Put.l0 kq l0 t724 x4_1 x5_1 = some r) ∧ Aside0 (kq ≤ k) ∧ Aside0 (Kd.R (Kd.int .i64) 2 w' w.heap.size (fun _ => True) (.slice Ao5 t724.length co5) t724) ∧ Aside0 (Kd.R (Kd.int .u8) 5 w' w.heap.size (fun _ => True) v4 x4_1) ∧ Aside0 (Below w.heap.size w w'))
 case atStart => exact ⟨(t727), (0), EB, H', ⟨Nat.le_refl _⟩, ⟨RU HO726.out⟩, ⟨RU HO729.out⟩, ⟨BU HB.out⟩⟩
 case round =>
  clear H'
  try clear c2
  try clear p2
  try clear c5
  try clear c6
  obtain ⟨x4_1, x5_1, rfl, HA, HK1, HO_3, HO_4, HB⟩ := hrel
  cases gk with
  | zero => exact absurd HA.out (by simp [estreatref11_Put.l0])
  | succ k1 =>
   have H := HA.out
   clear HA
   simp only [estreatref11_Put.l0] at H
   by_cases c7 : x5_1 < (t724.length : Int)
   ·rw [if_pos c7] at H
    have c7b0 : decide (x5_1 < (t724.length : Int)) = true := decide_eq_true c7
    clear c7
    by_cases c8 : x5_1 = 0
    ·rw [if_pos c8] at H
     have c8b0 : (x5_1 == 0) = true := beq_iff_eq.mpr c8
     have c8b1 : (x5_1 != 0) = false := bne_eq_false_iff_eq.mpr c8
     clear c8
     by_cases c9 : 0 < (t724.length : Int)
     ·rw [if_pos c9] at H
      have c9b0 : decide (0 < (t724.length : Int)) = true := decide_eq_true c9
      have c9b1 : decide (0 < t724.length) = true := decide_eq_true (by omega)
      clear c9
      replace H := Option.bind_eq_some_iff.mp H
      obtain ⟨t731, A100, H⟩ := H
      replace H : ((estreatref01_Var.f k1 t731).bind fun t732 => (if x4_1.length + t732.length < 140737488355328 then (estreatref11_Put.l0 k1 l0 t724 (x4_1 ++ t732) (wrap64 (x5_1 + 1))) else (none))) = some r := H
      have A10 := Aside0.mk A100
      clear A100
      replace H := Option.bind_eq_some_iff.mp H
      obtain ⟨t732, A110, H⟩ := H
      replace H : (if x4_1.length + t732.length < 140737488355328 then (estreatref11_Put.l0 k1 l0 t724 (x4_1 ++ t732) (wrap64 (x5_1 + 1))) else (none)) = some r := H
      have A11 := Aside0.mk A110
      clear A110
      by_cases c12 : x4_1.length + t732.length < 140737488355328
      ·rw [if_pos c12] at H
       have LMc12 := Aside0.mk c12
       clear c12
       obtain ⟨y735, hy735⟩ : ∃ y_ : List Int, y_ = (x4_1 ++ t732) := ⟨_, rfl⟩
       replace H : (estreatref11_Put.l0 k1 l0 t724 y735 (wrap64 (x5_1 + 1))) = some r := by first | (rw [hy735]; with_reducible exact H) | (have H2_ := (Option.bind_some _ _).symm.trans H; rw [hy735]; with_reducible exact H2_) | (have H2_ := (Option.bind_some _ _).symm.trans H; with_reducible exact H2_) | with_reducible exact H | (rw [hy735]; exact H) | exact H
       have Ny735 := Aside0.mk hy735
       clear hy735
       have H' := Aside0.mk H
       clear H
       have p730 : 0 ≤ (0 : Int) := (by omega)
       have q730 : 0 < (t724.length : Int) := OD
       obtain ⟨ad730, e730, hx730_0⟩ := Kd.at_int (Kd.R_reads' HO_3.out).2.2 0 p730 q730
       cases e730
       have qi730 : (0 < t724.length) = True := eq_true (by omega)
       (try rw [show ((0 : Int)).toNat = 0 from rfl] at hx730_0)
       (try rw [Addr.add_zero'] at hx730_0)
       replace p730 := eq_true p730
       replace q730 := eq_true q730
       go_wp2_with (first | ((with_reducible refine gate_callee (f := 55) rfl ?_); refine goesL_ (some 30) rfl rfl Tryz.func55 (by kernel_rfl) rfl #[.int .i64 (rd t724 0)] rfl EA ?_; (with_reducible refine (estreatref01_Zig.calls (rd t724 0) t731 _ A10.out).mono ?_); rintro e w' ⟨rfl, ⟨nd, rfl⟩⟩; refine ⟨_, rfl, ?_⟩) | ((with_reducible refine gate_callee (f := 54) rfl ?_); refine goesL_ (some 31) rfl rfl Tryz.func54 (by kernel_rfl) rfl #[.int .u64 t731] rfl EA ?_; (with_reducible refine (estreatref01_Var.calls k1 t731 t732 _ A11.out).mono ?_); rintro e w13 ⟨v733, rfl, ho0, hb⟩; refine ⟨_, rfl, ?_⟩; have n0_ := Aside0.mk (Kd.R_below (RU HO_3.out) hb); have n1_ := Aside0.mk (Kd.R_elder' (RU HO_4.out) (Kd.R_base ho0) hb); have n2_ := Aside0.mk (Kd.R_lower (Kd.R_new' ho0 (Kd.R_lt (RU HO_4.out))) (below_size (BU HB.out))); have n3_ := Aside0.mk (below_step (BU HB.out) hb); clear HO_3 HO_4 HB; have HO_3 := n0_; have HO_4 := n1_; have HO734 := n2_; have HB := n3_; clear n0_ n1_ n2_ n3_; (try clear hb); (try clear hb2); (try clear hk); (try clear hi); (try clear ho0); obtain ⟨Ao15, co15, eo15⟩ := Kd.R_slice HO734.out; subst eo15) | ((with_reducible refine gate_builtin (b := .append) (xs := #[.tmp 26, .tmp 31]) rfl ?_); at_builtin; refine Kd.R_append_rows (Kd.int .u8) (w0 := w) w.heap.size rfl (.tmp 26) (.tmp 31) 25 5 (.int .u8 0) 1 rfl Tryz.underlying25 info5 rfl (by decide) (by omega) u4 x4_1 t732 _ _ _ (fun k_ => some k_ ≠ (.slice Ao15 t732.length co15 : Value).ownBlock) (fun _ => False) rfl rfl ?aO ?aR (fun _ _ h => h) (fun _ h => h.elim) ?aF ?aB ?aS ?aL ?_; (case aR => exact CU ((Kd.R_reads' HO734.out).2.2)); (case aB => exact (BU HB.out)); (case aF => exact (fun k_ hk => Kd.fresh' (Kd.R_lt (RU HO734.out)) k_ hk)); (case aO => exact (RU (Kd.R_mono HO_4.out (fun _ hk => hk.2)))); (case aS => exact (below_size (BU HB.out))); (case aL => have := LMc12.out; omega); intro v736 w14 ho hb hg hat; rw [← Ny735.out] at ho; have n0_ := Aside0.mk (Kd.R_over' (RU HO_3.out) (Kd.R_typed (RU HO_4.out)) (by decide) hg); have n1_ := Aside0.mk (Kd.R_after (ok := (fun _ => True)) (RU HO734.out) hg hat); have n2_ := Aside0.mk (hb); have n3_ := Aside0.mk (ho); clear HO_3 HO734 HB HO_4; have HO_3 := n0_; have HO734 := n1_; have HB := n2_; have HO737 := n3_; clear n0_ n1_ n2_ n3_; clear ho hb hg hat))
       go_roundg k1
       case measure => have := HK1.out; omega
       case rel => exact ⟨(y735), (wrap64 (x5_1 + 1)), EB, H', ⟨by have := HK1.out; omega⟩, ⟨RU HO_3.out⟩, ⟨RU (Kd.R_mono HO737.out (fun _ hk => trivial))⟩, ⟨BU HB.out⟩⟩
      ·rw [if_neg c12] at H
       exact absurd H (by simp)
     ·rw [if_neg c9] at H
      exact absurd H (by simp)
    ·rw [if_neg c8] at H
     have c8b0 : (x5_1 == 0) = false := beq_eq_false_iff_ne.mpr c8
     have c8b1 : (x5_1 != 0) = true := bne_iff_ne.mpr c8
     by_cases c16 : 0 ≤ x5_1
     ·rw [if_pos c16] at H
      have c16b0 : decide (0 ≤ x5_1) = true := decide_eq_true c16
      clear c16
      obtain ⟨ji17, hji17⟩ : ∃ j_ : Int, (wrap64 (x5_1 - 1)) = j_ := ⟨_, rfl⟩
      replace H : (if 0 ≤ (ji17) then (if (ji17) < (t724.length : Int) then ((estreatref01_Var.f k1 (IntKind.u64.wrap ((IntKind.u64.wrap ((IntKind.u64.wrap (rd t724 x5_1)) - (IntKind.u64.wrap (rd t724 (ji17))))) - 1))).bind fun t740 => (if x4_1.length + t740.length < 140737488355328 then (estreatref11_Put.l0 k1 l0 t724 (x4_1 ++ t740) (wrap64 (x5_1 + 1))) else (none))) else (none)) else (none)) = some r := by first | (rw [hji17] at H; exact H) | (simp only [hji17] at H ⊢; exact H)
      have hji17w : (IntKind.i64.wrap (x5_1 - 1)) = ji17 := (i64_w _).trans hji17
      by_cases c18 : 0 ≤ (ji17)
      ·rw [if_pos c18] at H
       have c18b0 : decide (0 ≤ (ji17)) = true := decide_eq_true c18
       clear c18
       by_cases c19 : (ji17) < (t724.length : Int)
       ·rw [if_pos c19] at H
        have c19b0 : decide ((ji17) < (t724.length : Int)) = true := decide_eq_true c19
        clear c19
        replace H := Option.bind_eq_some_iff.mp H
        obtain ⟨t740, A200, H⟩ := H
        replace H : (if x4_1.length + t740.length < 140737488355328 then (estreatref11_Put.l0 k1 l0 t724 (x4_1 ++ t740) (wrap64 (x5_1 + 1))) else (none)) = some r := H
        have A20 := Aside0.mk A200
        clear A200
        by_cases c21 : x4_1.length + t740.length < 140737488355328
        ·rw [if_pos c21] at H
         have LMc21 := Aside0.mk c21
         clear c21
         obtain ⟨y743, hy743⟩ : ∃ y_ : List Int, y_ = (x4_1 ++ t740) := ⟨_, rfl⟩
         replace H : (estreatref11_Put.l0 k1 l0 t724 y743 (wrap64 (x5_1 + 1))) = some r := by first | (rw [hy743]; with_reducible exact H) | (have H2_ := (Option.bind_some _ _).symm.trans H; rw [hy743]; with_reducible exact H2_) | (have H2_ := (Option.bind_some _ _).symm.trans H; with_reducible exact H2_) | with_reducible exact H | (rw [hy743]; exact H) | exact H
         have Ny743 := Aside0.mk hy743
         clear hy743
         have H' := Aside0.mk H
         clear H
         try go_wp2
         have n0_ := Aside0.mk (Kd.R_drew HO_3.out)
         have n1_ := Aside0.mk (Kd.R_drew HO_4.out)
         have n2_ := Aside0.mk (below_drew1 HB.out)
         clear HO_3
         clear HO_4
         clear HB
         have HO_3 := n0_
         have HO_4 := n1_
         have HB := n2_
         clear n0_ n1_ n2_
         have p738 : 0 ≤ (x5_1 : Int) := OD
         have q738 : x5_1 < (t724.length : Int) := OD
         obtain ⟨ad738, e738, hx738_0⟩ := Kd.at_int (Kd.R_reads' HO_3.out).2.2 x5_1 p738 q738
         cases e738
         replace p738 := eq_true p738
         replace q738 := eq_true q738
         have p739 : 0 ≤ ((ji17) : Int) := OD
         have q739 : (ji17) < (t724.length : Int) := OD
         obtain ⟨ad739, e739, hx739_0⟩ := Kd.at_int (Kd.R_reads' HO_3.out).2.2 (ji17) p739 q739
         obtain rfl : ad738 = ad739 := (by injection e739)
         replace p739 := eq_true p739
         replace q739 := eq_true q739
         refine start_ (n := 17) (S := fun w' => w'.cell? (ad738.add (x5_1).toNat) = some (.int .i64 (rd t724 x5_1)) ∧ w'.cell? (ad738.add ((ji17)).toNat) = some (.int .i64 (rd t724 (ji17)))) (ds := [15]) #[false, false, false, false, false, false, false, false, false, false, false, false, false, false, false, false, false] (by kernel_rfl) rfl rfl ⟨hx738_0, hx739_0⟩ (fun hHeld => ?_); refine with_tabW estreatref11_Put.tab8 estreatref11_Put.bits8 (fun HT_ HW_ => ?_)
         generalize wr.drew = w22 at HO_3 HO_4 HB hx738_0 hx739_0 hHeld ⊢
         refine pure_ (i := 0) (N := some 33) (v := ?_) (a' := ?_) #[true, false, false, false, false, false, false, false, false, false, false, false, false, false, false, false, false] rfl rfl (any_of HT_.out (by kernel_rfl)) (fun _ _ _ h => h) (Or.inl ⟨by rfl, ?_⟩) ?_ ?_
         rotate_left
         ·intro w'
          go_simp
          with_reducible rfl
         rotate_left
         ·simp only [Act.put, List.setIfInBounds_toArray, List.set_cons_zero, List.set_cons_succ, i64_w, i32_w]
          rfl
         refine pure_ (i := 1) (N := some 34) (v := ?_) (a' := ?_) #[true, true, false, false, false, false, false, false, false, false, false, false, false, false, false, false, false] rfl rfl (any_of HT_.out (by kernel_rfl)) (fun _ _ _ h => h) (Or.inl ⟨by rfl, ?_⟩) ?_ ?_
         rotate_left
         ·intro w'
          go_simp
          with_reducible rfl
         rotate_left
         ·simp only [Act.put, List.setIfInBounds_toArray, List.set_cons_zero, List.set_cons_succ, i64_w, i32_w]
          rfl
         refine pure_ (i := 2) (N := some 35) (v := ?_) (a' := ?_) #[true, true, true, false, false, false, false, false, false, false, false, false, false, false, false, false, false] rfl rfl (any_of HT_.out (by kernel_rfl)) (fun _ _ _ h => h) (Or.inl ⟨by rfl, ?_⟩) ?_ ?_
         rotate_left
         ·intro w'
          go_simp
          with_reducible rfl
         rotate_left
         ·simp only [Act.put, List.setIfInBounds_toArray, List.set_cons_zero, List.set_cons_succ, i64_w, i32_w]
          rfl
         refine pure_ (i := 3) (N := some 36) (v := ?_) (a' := ?_) #[true, true, true, true, false, false, false, false, false, false, false, false, false, false, false, false, false] rfl rfl (any_of HT_.out (by kernel_rfl)) (fun _ _ _ h => h) (Or.inl ⟨by rfl, ?_⟩) ?_ ?_
         rotate_left
         ·intro w'
          go_simp
          with_reducible rfl
         rotate_left
         ·simp only [Act.put, List.setIfInBounds_toArray, List.set_cons_zero, List.set_cons_succ, i64_w, i32_w]
          rfl
         refine pure_ (i := 6) (N := some 39) (v := ?_) (a' := ?_) #[true, true, true, true, false, false, true, false, false, false, false, false, false, false, false, false, false] rfl rfl (any_of HT_.out (by kernel_rfl)) (fun _ _ _ h => h) (Or.inl ⟨by rfl, ?_⟩) ?_ ?_
         rotate_left
         ·intro w'
          go_simp
          with_reducible rfl
         rotate_left
         ·simp only [Act.put, List.setIfInBounds_toArray, List.set_cons_zero, List.set_cons_succ, i64_w, i32_w]
          rfl
         refine pure_ (i := 7) (N := some 40) (v := ?_) (a' := ?_) #[true, true, true, true, false, false, true, true, false, false, false, false, false, false, false, false, false] rfl rfl (any_of HT_.out (by kernel_rfl)) (fun _ _ _ h => h) (Or.inl ⟨by rfl, ?_⟩) ?_ ?_
         rotate_left
         ·intro w'
          go_simp
          with_reducible rfl
         rotate_left
         ·simp only [Act.put, List.setIfInBounds_toArray, List.set_cons_zero, List.set_cons_succ, i64_w, i32_w]
          rfl
         refine pure_ (i := 8) (N := some 41) (v := ?_) (a' := ?_) #[true, true, true, true, false, false, true, true, true, false, false, false, false, false, false, false, false] rfl rfl (any_of HT_.out (by kernel_rfl)) (fun _ _ _ h => h) (Or.inl ⟨by rfl, ?_⟩) ?_ ?_
         rotate_left
         ·intro w'
          go_simp
          with_reducible rfl
         rotate_left
         ·simp only [Act.put, List.setIfInBounds_toArray, List.set_cons_zero, List.set_cons_succ, i64_w, i32_w]
          rfl
         refine pure_ (i := 9) (N := some 42) (v := ?_) (a' := ?_) #[true, true, true, true, false, false, true, true, true, true, false, false, false, false, false, false, false] rfl rfl (any_of HT_.out (by kernel_rfl)) (fun _ _ _ h => h) (Or.inl ⟨by rfl, ?_⟩) ?_ ?_
         rotate_left
         ·intro w'
          go_simp
          with_reducible rfl
         rotate_left
         ·simp only [Act.put, List.setIfInBounds_toArray, List.set_cons_zero, List.set_cons_succ, i64_w, i32_w]
          rfl
         refine take_ (i := 4) (N := some 37) (v := ?_) (a' := ?_) #[true, true, true, true, true, false, true, true, true, true, false, false, false, false, false, false, false] rfl rfl (take_ofW HT_.out HW_.out (by kernel_rfl)) (fun _ _ _ h => h) (Or.inl ⟨by rfl, ?_⟩) hHeld ?_ ?_
         rotate_left
         ·rintro w' ⟨s0, s1⟩
          go_simp
          with_reducible rfl
         rotate_left
         ·simp only [Act.put, List.setIfInBounds_toArray, List.set_cons_zero, List.set_cons_succ, i64_w, i32_w]
          rfl
         refine pure_ (i := 5) (N := some 38) (v := ?_) (a' := ?_) #[true, true, true, true, true, true, true, true, true, true, false, false, false, false, false, false, false] rfl rfl (any_of HT_.out (by kernel_rfl)) (fun _ _ _ h => h) (Or.inl ⟨by rfl, ?_⟩) ?_ ?_
         rotate_left
         ·intro w'
          go_simp
          with_reducible rfl
         rotate_left
         ·simp only [Act.put, List.setIfInBounds_toArray, List.set_cons_zero, List.set_cons_succ, i64_w, i32_w]
          rfl
         refine take_ (i := 10) (N := some 43) (v := ?_) (a' := ?_) #[true, true, true, true, true, true, true, true, true, true, true, false, false, false, false, false, false] rfl rfl (take_ofW HT_.out HW_.out (by kernel_rfl)) (fun _ _ _ h => h) (Or.inl ⟨by rfl, ?_⟩) hHeld ?_ ?_
         rotate_left
         ·rintro w' ⟨s0, s1⟩
          go_simp
          with_reducible rfl
         rotate_left
         ·simp only [Act.put, List.setIfInBounds_toArray, List.set_cons_zero, List.set_cons_succ, i64_w, i32_w]
          rfl
         refine pure_ (i := 11) (N := some 44) (v := ?_) (a' := ?_) #[true, true, true, true, true, true, true, true, true, true, true, true, false, false, false, false, false] rfl rfl (any_of HT_.out (by kernel_rfl)) (fun _ _ _ h => h) (Or.inl ⟨by rfl, ?_⟩) ?_ ?_
         rotate_left
         ·intro w'
          go_simp
          with_reducible rfl
         rotate_left
         ·simp only [Act.put, List.setIfInBounds_toArray, List.set_cons_zero, List.set_cons_succ, i64_w, i32_w]
          rfl
         refine pure_ (i := 12) (N := some 45) (v := ?_) (a' := ?_) #[true, true, true, true, true, true, true, true, true, true, true, true, true, false, false, false, false] rfl rfl (any_of HT_.out (by kernel_rfl)) (fun _ _ _ h => h) (Or.inl ⟨by rfl, ?_⟩) ?_ ?_
         rotate_left
         ·intro w'
          go_simp
          with_reducible rfl
         rotate_left
         ·simp only [Act.put, List.setIfInBounds_toArray, List.set_cons_zero, List.set_cons_succ, i64_w, i32_w]
          rfl
         refine pure_ (i := 13) (N := some 46) (v := ?_) (a' := ?_) #[true, true, true, true, true, true, true, true, true, true, true, true, true, true, false, false, false] rfl rfl (any_of HT_.out (by kernel_rfl)) (fun _ _ _ h => h) (Or.inl ⟨by rfl, ?_⟩) ?_ ?_
         rotate_left
         ·intro w'
          go_simp
          with_reducible rfl
         rotate_left
         ·simp only [Act.put, List.setIfInBounds_toArray, List.set_cons_zero, List.set_cons_succ, i64_w, i32_w]
          rfl
         refine one_ (i := 14) (N := some 47) #[true, true, true, true, true, true, true, true, true, true, true, true, true, true, true, false, false] rfl rfl (one_of HT_.out (by kernel_rfl)) (by decide) (fun K hK => ?_)
         refine goes_ Tryz.func54 (by kernel_rfl) rfl #[.int .u64 (IntKind.u64.wrap ((IntKind.u64.wrap ((IntKind.u64.wrap (rd t724 x5_1)) - (IntKind.u64.wrap (rd t724 (ji17))))) - 1))] (by rfl) rfl rfl (by (try simp only [List.map_toArray, List.map_cons, List.map_nil]); first | done | (simp only [hji17]; rfl) | rfl | (simp only [List.length_drop, List.length_take]; rfl)) ?_
         with_reducible refine (estreatref01_Var.calls k1 (IntKind.u64.wrap ((IntKind.u64.wrap ((IntKind.u64.wrap (rd t724 x5_1)) - (IntKind.u64.wrap (rd t724 (ji17))))) - 1)) t740 _ A20.out).mono ?_
         rintro e w23 ⟨v741, rfl, ho0, hb⟩
         have HS0_ := (hb.cell (World.block_lt_of_cell? _ _ (hHeld.1))).trans (hHeld.1)
         have HS1_ := (hb.cell (World.block_lt_of_cell? _ _ (hHeld.2))).trans (hHeld.2)
         refine ⟨_, rfl, ?_⟩
         have n0_ := Aside0.mk (Kd.R_below (RU HO_3.out) hb)
         have n1_ := Aside0.mk (Kd.R_elder' (RU HO_4.out) (Kd.R_base ho0) hb)
         have n2_ := Aside0.mk (Kd.R_lower (Kd.R_new' ho0 (Kd.R_lt (RU HO_4.out))) (below_size (BU HB.out)))
         have n3_ := Aside0.mk (below_step (BU HB.out) hb)
         clear HO_3
         clear HO_4
         clear HB
         have HO_3 := n0_
         have HO_4 := n1_
         have HO742 := n2_
         have HB := n3_
         clear n0_ n1_ n2_ n3_
         (try clear hb)
         (try clear hb2)
         (try clear hk)
         (try clear hi)
         (try clear ho0)
         obtain ⟨Ao25, co25, eo25⟩ := Kd.R_slice HO742.out
         (first | subst eo25 | (injection eo25 with f1_ f2_ f3_; have f4_ := f1_.symm; have f5_ := f3_.symm; clear f1_ f2_ f3_; subst f4_; subst f5_))
         refine hK.out _ _ ⟨HS0_, HS1_⟩ (fun hHeld => ?_)
         clear hK K
         refine norm_ (a' := ?_) ?_ ?_
         rotate_left
         ·show Act.put _ (some 47) _ = _
          simp only [Act.put, List.setIfInBounds_toArray, List.set_cons_zero, List.set_cons_succ, i64_w, i32_w]
          rfl
         refine last_ (i := 15) (N := some 48) #[true, true, true, true, true, true, true, true, true, true, true, true, true, true, true, true, false] rfl rfl (one_of HT_.out (by kernel_rfl)) (by decide) (fun K hK => ?_)
         refine Kd.R_append_rows_step (Kd.int .u8) (w0 := w) w.heap.size (by rfl) (.tmp 33) (.tmp 47) 25 5 (.int .u8 0) 1 rfl Tryz.underlying25 info5 rfl (by decide) (by omega) u4 x4_1 t740 _ _ _ (fun k_ => some k_ ≠ (.slice Ao25 t740.length co25 : Value).ownBlock) (fun _ => False) rfl rfl ?aO ?aR (fun _ _ h => h) (fun _ h => h.elim) ?aF ?aB ?aS ?aL ?_
         (case aR => exact CU ((Kd.R_reads' HO742.out).2.2))
         (case aB => exact (BU HB.out))
         (case aF => exact (fun k_ hk => Kd.fresh' (Kd.R_lt (RU HO742.out)) k_ hk))
         (case aO => exact (RU (Kd.R_mono HO_4.out (fun _ hk => hk.2))))
         (case aS => exact (below_size (BU HB.out)))
         (case aL => have := LMc21.out; omega)
         intro v744 w24 ho hb hg hat
         rw [← Ny743.out] at ho
         have n0_ := Aside0.mk (Kd.R_over' (RU HO_3.out) (Kd.R_typed (RU HO_4.out)) (by decide) hg)
         have n1_ := Aside0.mk (Kd.R_after (ok := (fun _ => True)) (RU HO742.out) hg hat)
         have n2_ := Aside0.mk (hb)
         have n3_ := Aside0.mk (ho)
         clear HO_3
         clear HO742
         clear HB
         clear HO_4
         have HO_3 := n0_
         have HO742 := n1_
         have HB := n2_
         have HO745 := n3_
         clear n0_ n1_ n2_ n3_
         clear ho hb hg hat
         refine hK.out _ _ ?_
         clear hK K
         refine norm_ (a' := ?_) ?_ ?_
         rotate_left
         ·show Act.put _ (some 48) _ = _
          simp only [Act.put, List.setIfInBounds_toArray, List.set_cons_zero, List.set_cons_succ, i64_w, i32_w]
          rfl
         refine pure_ (i := 16) (N := some 4) (v := ?_) (a' := ?_) #[true, true, true, true, true, true, true, true, true, true, true, true, true, true, true, true, true] rfl rfl (any_of HT_.out (by kernel_rfl)) (fun _ _ _ h => h) (Or.inl ⟨by rfl, ?_⟩) ?_ ?_
         rotate_left
         ·intro w'
          go_simp
          with_reducible rfl
         rotate_left
         ·simp only [Act.put, List.setIfInBounds_toArray, List.set_cons_zero, List.set_cons_succ, i64_w, i32_w]
          rfl
         refine done_ (done_of HT_.out (by kernel_rfl)) ?_
         try go_wp2
         go_roundg k1
         case measure => have := HK1.out; omega
         case rel => exact ⟨(y743), (wrap64 (x5_1 + 1)), EB, H', ⟨by have := HK1.out; omega⟩, ⟨RU HO_3.out⟩, ⟨RU (Kd.R_mono HO745.out (fun _ hk => trivial))⟩, ⟨BU HB.out⟩⟩
        ·rw [if_neg c21] at H
         exact absurd H (by simp)
       ·rw [if_neg c19] at H
        exact absurd H (by simp)
      ·rw [if_neg c18] at H
       exact absurd H (by simp)
     ·rw [if_neg c16] at H
      exact absurd H (by simp)
   ·rw [if_neg c7] at H
    have c7b0 : decide (x5_1 < (t724.length : Int)) = false := decide_eq_false c7
    clear c7
    have H' := Aside0.mk H
    clear H
    go_wp2
    go_loopg [6, 7] k1 (fun kq v6 v7 w' => ∃ (x6_2 : List Int) (x7_2 : Int), v7 = .int .i64 x7_2 ∧ Aside0 (estreatref11_Put.l1 kq l0 t724 x4_1 x6_2 x7_2 = some r) ∧ Aside0 (kq ≤ k1) ∧ Aside0 (Kd.R (Kd.int .i64) 2 w' w.heap.size (fun _ => True) (.slice Ao5 t724.length co5) t724) ∧ Aside0 (Kd.R (Kd.int .u8) 5 w' w.heap.size (fun _ => True) u4 x4_1) ∧ Aside0 (Kd.R (Kd.int .u64) 66 w' w.heap.size (fun _ => True) v6 x6_2) ∧ Aside0 (Below w.heap.size w w'))
    case atStart => exact ⟨(([] : List Int)), (0), EB, H', ⟨Nat.le_refl _⟩, ⟨RU HO_3.out⟩, ⟨RU HO_4.out⟩, ⟨by first | exact Kd.R_nil _ _ _ _ _ | exact Kd.N_nil _ _ _ _ _ | exact Kd.V_nil _ _ _ _ _ | exact Kd.Q_nil _ _ _ _ _ | exact Kd.S_nil _ _ _ _ _⟩, ⟨BU HB.out⟩⟩
    case round =>
     clear H'
     try clear c1
     try clear c2
     try clear p2
     try clear c5
     try clear c6
     try clear p6
     try clear c7
     try clear c7b0
     try clear p7
     try clear q7
     try clear hx7
     try clear qi7
     try clear c8
     try clear c8b0
     try clear c8b1
     try clear c9
     try clear c9b0
     try clear c9b1
     try clear c12
     try clear c16
     try clear c16b0
     try clear c18
     try clear c18b0
     try clear c19
     try clear c19b0
     try clear c21
     try clear hx730_0
     try clear hx738_0
     try clear hx739_0
     try clear p2
     try clear p730
     try clear p738
     try clear p739
     try clear q730
     try clear q738
     try clear q739
     obtain ⟨x6_2, x7_2, rfl, HA, HK2, HO_3, HO_4, HO_6, HB⟩ := hrel
     cases gk with
     | zero => exact absurd HA.out (by simp [estreatref11_Put.l1])
     | succ k2 =>
      have H := HA.out
      clear HA
      simp only [estreatref11_Put.l1] at H
      by_cases c26 : x7_2 < (l0.length : Int)
      ·rw [if_pos c26] at H
       have c26b0 : decide (x7_2 < (l0.length : Int)) = true := decide_eq_true c26
       clear c26
       have H' := Aside0.mk H
       clear H
       go_wp2
       go_loopg [6, 8] k2 (fun kq v6 v8 w' => ∃ (x6_3 : List Int) (x8_3 : Int), v8 = .int .i64 x8_3 ∧ Aside0 (estreatref11_Put.l2 kq l0 t724 x4_1 x6_3 x7_2 x8_3 = some r) ∧ Aside0 (kq ≤ k2) ∧ Aside0 (Kd.R (Kd.int .i64) 2 w' w.heap.size (fun _ => True) (.slice Ao5 t724.length co5) t724) ∧ Aside0 (Kd.R (Kd.int .u8) 5 w' w.heap.size (fun _ => True) u4 x4_1) ∧ Aside0 (Kd.R (Kd.int .u64) 66 w' w.heap.size (fun _ => True) v6 x6_3) ∧ Aside0 (Below w.heap.size w w'))
       case atStart => exact ⟨(x6_2), (0), EB, H', ⟨Nat.le_refl _⟩, ⟨RU HO_3.out⟩, ⟨RU HO_4.out⟩, ⟨RU HO_6.out⟩, ⟨BU HB.out⟩⟩
       case round =>
        clear H'
        try clear c1
        try clear c2
        try clear p2
        try clear c5
        try clear c6
        try clear p6
        try clear c7
        try clear c7b0
        try clear p7
        try clear q7
        try clear hx7
        try clear qi7
        try clear c8
        try clear c8b0
        try clear c8b1
        try clear c9
        try clear c9b0
        try clear c9b1
        try clear c12
        try clear c16
        try clear c16b0
        try clear c18
        try clear c18b0
        try clear c19
        try clear c19b0
        try clear c21
        try clear c26
        try clear c26b0
        try clear hx730_0
        try clear hx738_0
        try clear hx739_0
        try clear p2
        try clear p6
        try clear p7
        try clear p730
        try clear p738
        try clear p739
        try clear q7
        try clear q730
        try clear q738
        try clear q739
        obtain ⟨x6_3, x8_3, rfl, HA, HK3, HO_3, HO_4, HO_6, HB⟩ := hrel
        cases gk with
        | zero => exact absurd HA.out (by simp [estreatref11_Put.l2])
        | succ k3 =>
         have H := HA.out
         clear HA
         simp only [estreatref11_Put.l2] at H
         by_cases c27 : x8_3 < (t724.length : Int)
         ·rw [if_pos c27] at H
          have c27b0 : decide (x8_3 < (t724.length : Int)) = true := decide_eq_true c27
          clear c27
          by_cases c28 : 0 ≤ x8_3
          ·rw [if_pos c28] at H
           have c28b0 : decide (0 ≤ x8_3) = true := decide_eq_true c28
           clear c28
           by_cases c29 : 0 ≤ x7_2
           ·rw [if_pos c29] at H
            have c29b0 : decide (0 ≤ x7_2) = true := decide_eq_true c29
            clear c29
            by_cases c30 : x7_2 < (l0.length : Int)
            ·rw [if_pos c30] at H
             have c30b0 : decide (x7_2 < (l0.length : Int)) = true := decide_eq_true c30
             clear c30
             by_cases c31 : (rd t724 x8_3) = (rd l0 x7_2)
             ·rw [if_pos c31] at H
              have c31b0 : ((rd t724 x8_3) == (rd l0 x7_2)) = true := beq_iff_eq.mpr c31
              have c31b1 : ((rd t724 x8_3) != (rd l0 x7_2)) = false := bne_eq_false_iff_eq.mpr c31
              clear c31
              by_cases c32 : x6_3.length < 17592186044416
              ·rw [if_pos c32] at H
               have LMc32 := Aside0.mk c32
               clear c32
               obtain ⟨y759, hy759⟩ : ∃ y_ : List Int, y_ = (x6_3 ++ [IntKind.u64.wrap (x8_3)]) := ⟨_, rfl⟩
               replace H : (estreatref11_Put.l2 k3 l0 t724 x4_1 y759 x7_2 (wrap64 (x8_3 + 1))) = some r := by first | (rw [hy759]; with_reducible exact H) | (have H2_ := (Option.bind_some _ _).symm.trans H; rw [hy759]; with_reducible exact H2_) | (have H2_ := (Option.bind_some _ _).symm.trans H; with_reducible exact H2_) | with_reducible exact H | (rw [hy759]; exact H) | exact H
               have Ny759 := Aside0.mk hy759
               clear hy759
               have H' := Aside0.mk H
               clear H
               try go_wp2
               have n0_ := Aside0.mk (Kd.R_drew HO_3.out)
               have n1_ := Aside0.mk (Kd.R_drew HO_4.out)
               have n2_ := Aside0.mk (Kd.R_drew HO_6.out)
               have n3_ := Aside0.mk (below_drew1 HB.out)
               clear HO_3
               clear HO_4
               clear HO_6
               clear HB
               have HO_3 := n0_
               have HO_4 := n1_
               have HO_6 := n2_
               have HB := n3_
               clear n0_ n1_ n2_ n3_
               have p757 : 0 ≤ (x8_3 : Int) := OD
               have q757 : x8_3 < (t724.length : Int) := OD
               obtain ⟨ad757, e757, hx757_0⟩ := Kd.at_int (Kd.R_reads' HO_3.out).2.2 x8_3 p757 q757
               cases e757
               replace p757 := eq_true p757
               replace q757 := eq_true q757
               have p758 : 0 ≤ (x7_2 : Int) := OD
               have q758 : x7_2 < (l0.length : Int) := OD
               obtain ⟨ad758, e758, hx758_0⟩ := Kd.at_int HR0.out x7_2 p758 q758
               have hw758_0 := hx758_0
               cases e758
               replace hx758_0 := (HB.out.cell (World.block_lt_of_cell? w _ hx758_0)).trans hx758_0
               replace p758 := eq_true p758
               replace q758 := eq_true q758
               refine start_ (n := 9) (S := fun w' => w'.cell? (ad757.add (x8_3).toNat) = some (.int .i64 (rd t724 x8_3)) ∧ w'.cell? (ad758.add (x7_2).toNat) = some (.int .i64 (rd l0 x7_2))) (ds := []) #[false, false, false, false, false, false, false, false, false] (by kernel_rfl) rfl rfl ⟨hx757_0, ((HB.out.cell (World.block_lt_of_cell? w _ hw758_0)).trans hw758_0)⟩ (fun hHeld => ?_); refine with_tabW estreatref11_Put.tab16 estreatref11_Put.bits16 (fun HT_ HW_ => ?_)
               generalize wr.drew = w33 at HO_3 HO_4 HO_6 HB hx757_0 hx758_0 hHeld ⊢
               refine pure_ (i := 0) (N := some 61) (v := ?_) (a' := ?_) #[true, false, false, false, false, false, false, false, false] rfl rfl (any_of HT_.out (by kernel_rfl)) (fun _ _ _ h => h) (Or.inl ⟨by rfl, ?_⟩) ?_ ?_
               rotate_left
               ·intro w'
                go_simp
                with_reducible rfl
               rotate_left
               ·simp only [Act.put, List.setIfInBounds_toArray, List.set_cons_zero, List.set_cons_succ, i64_w, i32_w]
                rfl
               refine pure_ (i := 1) (N := some 62) (v := ?_) (a' := ?_) #[true, true, false, false, false, false, false, false, false] rfl rfl (any_of HT_.out (by kernel_rfl)) (fun _ _ _ h => h) (Or.inl ⟨by rfl, ?_⟩) ?_ ?_
               rotate_left
               ·intro w'
                go_simp
                with_reducible rfl
               rotate_left
               ·simp only [Act.put, List.setIfInBounds_toArray, List.set_cons_zero, List.set_cons_succ, i64_w, i32_w]
                rfl
               refine pure_ (i := 2) (N := some 63) (v := ?_) (a' := ?_) #[true, true, true, false, false, false, false, false, false] rfl rfl (any_of HT_.out (by kernel_rfl)) (fun _ _ _ h => h) (Or.inl ⟨by rfl, ?_⟩) ?_ ?_
               rotate_left
               ·intro w'
                go_simp
                with_reducible rfl
               rotate_left
               ·simp only [Act.put, List.setIfInBounds_toArray, List.set_cons_zero, List.set_cons_succ, i64_w, i32_w]
                rfl
               refine pure_ (i := 4) (N := some 65) (v := ?_) (a' := ?_) #[true, true, true, false, true, false, false, false, false] rfl rfl (any_of HT_.out (by kernel_rfl)) (fun _ _ _ h => h) (Or.inl ⟨by rfl, ?_⟩) ?_ ?_
               rotate_left
               ·intro w'
                go_simp
                with_reducible rfl
               rotate_left
               ·simp only [Act.put, List.setIfInBounds_toArray, List.set_cons_zero, List.set_cons_succ, i64_w, i32_w]
                rfl
               refine pure_ (i := 5) (N := some 66) (v := ?_) (a' := ?_) #[true, true, true, false, true, true, false, false, false] rfl rfl (any_of HT_.out (by kernel_rfl)) (fun _ _ _ h => h) (Or.inl ⟨by rfl, ?_⟩) ?_ ?_
               rotate_left
               ·intro w'
                go_simp
                with_reducible rfl
               rotate_left
               ·simp only [Act.put, List.setIfInBounds_toArray, List.set_cons_zero, List.set_cons_succ, i64_w, i32_w]
                rfl
               refine pure_ (i := 6) (N := some 67) (v := ?_) (a' := ?_) #[true, true, true, false, true, true, true, false, false] rfl rfl (any_of HT_.out (by kernel_rfl)) (fun _ _ _ h => h) (Or.inl ⟨by rfl, ?_⟩) ?_ ?_
               rotate_left
               ·intro w'
                go_simp
                with_reducible rfl
               rotate_left
               ·simp only [Act.put, List.setIfInBounds_toArray, List.set_cons_zero, List.set_cons_succ, i64_w, i32_w]
                rfl
               refine take_ (i := 3) (N := some 64) (v := ?_) (a' := ?_) #[true, true, true, true, true, true, true, false, false] rfl rfl (take_ofW HT_.out HW_.out (by kernel_rfl)) (fun _ _ _ h => h) (Or.inl ⟨by rfl, ?_⟩) hHeld ?_ ?_
               rotate_left
               ·rintro w' ⟨s0, s1⟩
                go_simp
                with_reducible rfl
               rotate_left
               ·simp only [Act.put, List.setIfInBounds_toArray, List.set_cons_zero, List.set_cons_succ, i64_w, i32_w]
                rfl
               refine take_ (i := 7) (N := some 68) (v := ?_) (a' := ?_) #[true, true, true, true, true, true, true, true, false] rfl rfl (take_ofW HT_.out HW_.out (by kernel_rfl)) (fun _ _ _ h => h) (Or.inl ⟨by rfl, ?_⟩) hHeld ?_ ?_
               rotate_left
               ·rintro w' ⟨s0, s1⟩
                go_simp
                with_reducible rfl
               rotate_left
               ·simp only [Act.put, List.setIfInBounds_toArray, List.set_cons_zero, List.set_cons_succ, i64_w, i32_w]
                rfl
               refine pure_ (i := 8) (N := some 69) (v := ?_) (a' := ?_) #[true, true, true, true, true, true, true, true, true] rfl rfl (any_of HT_.out (by kernel_rfl)) (fun _ _ _ h => h) (Or.inl ⟨by rfl, ?_⟩) ?_ ?_
               rotate_left
               ·intro w'
                go_simp
                with_reducible rfl
               rotate_left
               ·simp only [Act.put, List.setIfInBounds_toArray, List.set_cons_zero, List.set_cons_succ, i64_w, i32_w]
                rfl
               refine done_ (done_of HT_.out (by kernel_rfl)) ?_
               try go_wp2_with (first | ((with_reducible refine gate_builtin (b := .append) (xs := #[.tmp 70, .tmp 73]) rfl ?_); at_builtin; refine Kd.R_append (Kd.int .u64) (w0 := w) w.heap.size rfl (.tmp 70) (.tmp 73) 68 66 (.int .u64 0) 8 rfl Tryz.underlying68 info66 rfl (by decide) (by omega) u6 x6_3 (IntKind.u64.wrap (x8_3)) [.int .u64 (IntKind.u64.wrap (x8_3))] (fun _ => True) (fun _ => False) rfl rfl ?aP (fun _ hk => hk.elim) ?aF ?aO ?aB ?aS ?aL ?_; (case aP => exact rfl); (case aB => exact (BU HB.out)); (case aF => exact (fun _ _ => trivial)); (case aO => exact (RU HO_6.out)); (case aS => exact (below_size (BU HB.out))); (case aL => have := LMc32.out; omega); intro v760 w34 ho hb hg hat; rw [← Ny759.out] at ho; have n0_ := Aside0.mk (Kd.R_over' (RU HO_3.out) (Kd.R_typed (RU HO_6.out)) (by decide) hg); have n1_ := Aside0.mk (Kd.R_over' (RU HO_4.out) (Kd.R_typed (RU HO_6.out)) (by decide) hg); have n2_ := Aside0.mk (hb); have n3_ := Aside0.mk (ho); clear HO_3 HO_4 HB HO_6; have HO_3 := n0_; have HO_4 := n1_; have HB := n2_; have HO761 := n3_; clear n0_ n1_ n2_ n3_; clear ho hb hg hat))
               go_roundg k3
               case measure => have := HK1.out; have := HK2.out; have := HK3.out; omega
               case rel => exact ⟨(y759), (wrap64 (x8_3 + 1)), EB, H', ⟨by have := HK1.out; have := HK2.out; have := HK3.out; omega⟩, ⟨RU HO_3.out⟩, ⟨RU HO_4.out⟩, ⟨RU HO761.out⟩, ⟨BU HB.out⟩⟩
              ·rw [if_neg c32] at H
               exact absurd H (by simp)
             ·rw [if_neg c31] at H
              have c31b0 : ((rd t724 x8_3) == (rd l0 x7_2)) = false := beq_eq_false_iff_ne.mpr c31
              have c31b1 : ((rd t724 x8_3) != (rd l0 x7_2)) = true := bne_iff_ne.mpr c31
              have H' := Aside0.mk H
              clear H
              try go_wp2
              have n0_ := Aside0.mk (Kd.R_drew HO_3.out)
              have n1_ := Aside0.mk (Kd.R_drew HO_4.out)
              have n2_ := Aside0.mk (Kd.R_drew HO_6.out)
              have n3_ := Aside0.mk (below_drew1 HB.out)
              clear HO_3
              clear HO_4
              clear HO_6
              clear HB
              have HO_3 := n0_
              have HO_4 := n1_
              have HO_6 := n2_
              have HB := n3_
              clear n0_ n1_ n2_ n3_
              have p757 : 0 ≤ (x8_3 : Int) := OD
              have q757 : x8_3 < (t724.length : Int) := OD
              obtain ⟨ad757, e757, hx757_0⟩ := Kd.at_int (Kd.R_reads' HO_3.out).2.2 x8_3 p757 q757
              cases e757
              replace p757 := eq_true p757
              replace q757 := eq_true q757
              have p758 : 0 ≤ (x7_2 : Int) := OD
              have q758 : x7_2 < (l0.length : Int) := OD
              obtain ⟨ad758, e758, hx758_0⟩ := Kd.at_int HR0.out x7_2 p758 q758
              have hw758_0 := hx758_0
              cases e758
              replace hx758_0 := (HB.out.cell (World.block_lt_of_cell? w _ hx758_0)).trans hx758_0
              replace p758 := eq_true p758
              replace q758 := eq_true q758
              refine start_ (n := 9) (S := fun w' => w'.cell? (ad757.add (x8_3).toNat) = some (.int .i64 (rd t724 x8_3)) ∧ w'.cell? (ad758.add (x7_2).toNat) = some (.int .i64 (rd l0 x7_2))) (ds := []) #[false, false, false, false, false, false, false, false, false] (by kernel_rfl) rfl rfl ⟨hx757_0, ((HB.out.cell (World.block_lt_of_cell? w _ hw758_0)).trans hw758_0)⟩ (fun hHeld => ?_); refine with_tabW estreatref11_Put.tab16 estreatref11_Put.bits16 (fun HT_ HW_ => ?_)
              generalize wr.drew = w35 at HO_3 HO_4 HO_6 HB hx757_0 hx758_0 hHeld ⊢
              refine pure_ (i := 0) (N := some 61) (v := ?_) (a' := ?_) #[true, false, false, false, false, false, false, false, false] rfl rfl (any_of HT_.out (by kernel_rfl)) (fun _ _ _ h => h) (Or.inl ⟨by rfl, ?_⟩) ?_ ?_
              rotate_left
              ·intro w'
               go_simp
               with_reducible rfl
              rotate_left
              ·simp only [Act.put, List.setIfInBounds_toArray, List.set_cons_zero, List.set_cons_succ, i64_w, i32_w]
               rfl
              refine pure_ (i := 1) (N := some 62) (v := ?_) (a' := ?_) #[true, true, false, false, false, false, false, false, false] rfl rfl (any_of HT_.out (by kernel_rfl)) (fun _ _ _ h => h) (Or.inl ⟨by rfl, ?_⟩) ?_ ?_
              rotate_left
              ·intro w'
               go_simp
               with_reducible rfl
              rotate_left
              ·simp only [Act.put, List.setIfInBounds_toArray, List.set_cons_zero, List.set_cons_succ, i64_w, i32_w]
               rfl
              refine pure_ (i := 2) (N := some 63) (v := ?_) (a' := ?_) #[true, true, true, false, false, false, false, false, false] rfl rfl (any_of HT_.out (by kernel_rfl)) (fun _ _ _ h => h) (Or.inl ⟨by rfl, ?_⟩) ?_ ?_
              rotate_left
              ·intro w'
               go_simp
               with_reducible rfl
              rotate_left
              ·simp only [Act.put, List.setIfInBounds_toArray, List.set_cons_zero, List.set_cons_succ, i64_w, i32_w]
               rfl
              refine pure_ (i := 4) (N := some 65) (v := ?_) (a' := ?_) #[true, true, true, false, true, false, false, false, false] rfl rfl (any_of HT_.out (by kernel_rfl)) (fun _ _ _ h => h) (Or.inl ⟨by rfl, ?_⟩) ?_ ?_
              rotate_left
              ·intro w'
               go_simp
               with_reducible rfl
              rotate_left
              ·simp only [Act.put, List.setIfInBounds_toArray, List.set_cons_zero, List.set_cons_succ, i64_w, i32_w]
               rfl
              refine pure_ (i := 5) (N := some 66) (v := ?_) (a' := ?_) #[true, true, true, false, true, true, false, false, false] rfl rfl (any_of HT_.out (by kernel_rfl)) (fun _ _ _ h => h) (Or.inl ⟨by rfl, ?_⟩) ?_ ?_
              rotate_left
              ·intro w'
               go_simp
               with_reducible rfl
              rotate_left
              ·simp only [Act.put, List.setIfInBounds_toArray, List.set_cons_zero, List.set_cons_succ, i64_w, i32_w]
               rfl
              refine pure_ (i := 6) (N := some 67) (v := ?_) (a' := ?_) #[true, true, true, false, true, true, true, false, false] rfl rfl (any_of HT_.out (by kernel_rfl)) (fun _ _ _ h => h) (Or.inl ⟨by rfl, ?_⟩) ?_ ?_
              rotate_left
              ·intro w'
               go_simp
               with_reducible rfl
              rotate_left
              ·simp only [Act.put, List.setIfInBounds_toArray, List.set_cons_zero, List.set_cons_succ, i64_w, i32_w]
               rfl
              refine take_ (i := 3) (N := some 64) (v := ?_) (a' := ?_) #[true, true, true, true, true, true, true, false, false] rfl rfl (take_ofW HT_.out HW_.out (by kernel_rfl)) (fun _ _ _ h => h) (Or.inl ⟨by rfl, ?_⟩) hHeld ?_ ?_
              rotate_left
              ·rintro w' ⟨s0, s1⟩
               go_simp
               with_reducible rfl
              rotate_left
              ·simp only [Act.put, List.setIfInBounds_toArray, List.set_cons_zero, List.set_cons_succ, i64_w, i32_w]
               rfl
              refine take_ (i := 7) (N := some 68) (v := ?_) (a' := ?_) #[true, true, true, true, true, true, true, true, false] rfl rfl (take_ofW HT_.out HW_.out (by kernel_rfl)) (fun _ _ _ h => h) (Or.inl ⟨by rfl, ?_⟩) hHeld ?_ ?_
              rotate_left
              ·rintro w' ⟨s0, s1⟩
               go_simp
               with_reducible rfl
              rotate_left
              ·simp only [Act.put, List.setIfInBounds_toArray, List.set_cons_zero, List.set_cons_succ, i64_w, i32_w]
               rfl
              refine pure_ (i := 8) (N := some 69) (v := ?_) (a' := ?_) #[true, true, true, true, true, true, true, true, true] rfl rfl (any_of HT_.out (by kernel_rfl)) (fun _ _ _ h => h) (Or.inl ⟨by rfl, ?_⟩) ?_ ?_
              rotate_left
              ·intro w'
               go_simp
               with_reducible rfl
              rotate_left
              ·simp only [Act.put, List.setIfInBounds_toArray, List.set_cons_zero, List.set_cons_succ, i64_w, i32_w]
               rfl
              refine done_ (done_of HT_.out (by kernel_rfl)) ?_
              try go_wp2
              go_roundg k3
              case measure => have := HK1.out; have := HK2.out; have := HK3.out; omega
              case rel => exact ⟨(x6_3), (wrap64 (x8_3 + 1)), EB, H', ⟨by have := HK1.out; have := HK2.out; have := HK3.out; omega⟩, ⟨RU HO_3.out⟩, ⟨RU HO_4.out⟩, ⟨RU HO_6.out⟩, ⟨BU HB.out⟩⟩
            ·rw [if_neg c30] at H
             exact absurd H (by simp)
           ·rw [if_neg c29] at H
            exact absurd H (by simp)
          ·rw [if_neg c28] at H
           exact absurd H (by simp)
         ·rw [if_neg c27] at H
          have c27b0 : decide (x8_3 < (t724.length : Int)) = false := decide_eq_false c27
          clear c27
          have H' := Aside0.mk H
          clear H
          go_wp2
          go_roundg k3
          case measure => have := HK1.out; have := HK2.out; have := HK3.out; omega
          case rel => exact ⟨(x6_3), (wrap64 (x7_2 + 1)), EB, H', ⟨by have := HK1.out; have := HK2.out; have := HK3.out; omega⟩, ⟨RU HO_3.out⟩, ⟨RU HO_4.out⟩, ⟨RU HO_6.out⟩, ⟨BU HB.out⟩⟩
      ·rw [if_neg c26] at H
       have c26b0 : decide (x7_2 < (l0.length : Int)) = false := decide_eq_false c26
       clear c26
       replace H := Option.bind_eq_some_iff.mp H
       obtain ⟨t746, A360, H⟩ := H
       replace H : ((estreatref02_Pack.f k2 x6_2 t746).bind fun bt747 => (if x4_1.length < 140737488355328 then ((some (x4_1 ++ [(t746) % 256] : List Int)).bind fun y751 => (if y751.length + bt747.1.length < 140737488355328 then (some (y751 ++ bt747.1)) else (none))) else (none))) = some r := H
       have A36 := Aside0.mk A360
       clear A360
       replace H := Option.bind_eq_some_iff.mp H
       obtain ⟨⟨t747, t748⟩, A370, H⟩ := H
       replace H : (if x4_1.length < 140737488355328 then ((some (x4_1 ++ [(t746) % 256] : List Int)).bind fun y751 => (if y751.length + t747.length < 140737488355328 then (some (y751 ++ t747)) else (none))) else (none)) = some r := H
       have A37 := Aside0.mk A370
       clear A370
       by_cases c38 : x4_1.length < 140737488355328
       ·rw [if_pos c38] at H
        have LMc38 := Aside0.mk c38
        clear c38
        obtain ⟨y751, hy751⟩ : ∃ y_ : List Int, y_ = (x4_1 ++ [(t746) % 256]) := ⟨_, rfl⟩
        replace H : (if y751.length + t747.length < 140737488355328 then (some (y751 ++ t747)) else (none)) = some r := by first | (rw [hy751]; with_reducible exact H) | (have H2_ := (Option.bind_some _ _).symm.trans H; rw [hy751]; with_reducible exact H2_) | (have H2_ := (Option.bind_some _ _).symm.trans H; with_reducible exact H2_) | with_reducible exact H | (rw [hy751]; exact H) | exact H
        have Ny751 := Aside0.mk hy751
        clear hy751
        by_cases c39 : y751.length + t747.length < 140737488355328
        ·rw [if_pos c39] at H
         have LMc39 := Aside0.mk c39
         clear c39
         obtain ⟨y754, hy754⟩ : ∃ y_ : List Int, y_ = (y751 ++ t747) := ⟨_, rfl⟩
         replace H : (some y754) = some r := by first | (rw [hy754]; with_reducible exact H) | (have H2_ := (Option.bind_some _ _).symm.trans H; rw [hy754]; with_reducible exact H2_) | (have H2_ := (Option.bind_some _ _).symm.trans H; with_reducible exact H2_) | with_reducible exact H | (rw [hy754]; exact H) | exact H
         have Ny754 := Aside0.mk hy754
         clear hy754
         obtain rfl := Option.some.inj H
         go_wp2_with (first | ((with_reducible refine gate_callee (f := 61) rfl ?_); refine goesL_ (some 77) rfl rfl Tryz.func61 (by kernel_rfl) rfl #[.int .i64 (t724.length : Int)] rfl EA ?_; (with_reducible refine (estreatref11_Width.calls k2 (t724.length : Int) t746 _ A36.out).mono ?_); rintro e w' ⟨rfl, ⟨nd, rfl⟩⟩; refine ⟨_, rfl, ?_⟩; obtain ⟨Ao40, co40, eo40⟩ := Kd.R_slice HO_6.out; subst eo40) | ((with_reducible refine gate_callee (f := 59) rfl ?_); refine goesL_ (some 81) rfl rfl Tryz.func59 (by kernel_rfl) rfl #[.slice Ao40 x6_2.length co40, .int .i64 t746] rfl EA ?_; (with_reducible refine (estreatref02_Pack.calls k2 _ _ x6_2 t746 t747 t748 _ ?side1 ?side2 A37.out).mono ?_); (case side1 => exact CU ((Kd.R_reads' HO_6.out).2.2)); (case side2 => exact (Kd.R_reads' HO_6.out).2.1); rintro e w41 ⟨v749, rfl, ho0, hb⟩; refine ⟨_, rfl, ?_⟩; have n0_ := Aside0.mk (Kd.R_below (RU HO_3.out) hb); have n1_ := Aside0.mk (Kd.R_elder' (RU HO_4.out) (Kd.R_base ho0) hb); have n2_ := Aside0.mk (Kd.R_below (RU HO_6.out) hb); have n3_ := Aside0.mk (Kd.R_lower (Kd.R_new' ho0 (Kd.R_lt (RU HO_4.out))) (below_size (BU HB.out))); have n4_ := Aside0.mk (below_step (BU HB.out) hb); clear HO_3 HO_4 HO_6 HB; have HO_3 := n0_; have HO_4 := n1_; have HO_6 := n2_; have HO750 := n3_; have HB := n4_; clear n0_ n1_ n2_ n3_ n4_; (try clear hb); (try clear hb2); (try clear hk); (try clear hi); (try clear ho0)) | ((with_reducible refine gate_builtin (b := .append) (xs := #[.tmp 84, .tmp 87]) rfl ?_); at_builtin; refine Kd.R_append (Kd.int .u8) (w0 := w) w.heap.size rfl (.tmp 84) (.tmp 87) 25 5 (.int .u8 0) 1 rfl Tryz.underlying25 info5 rfl (by decide) (by omega) u4 x4_1 ((t746) % 256) [.int .u8 ((t746) % 256)] (fun k_ => some k_ ≠ (v749 : Value).ownBlock) (fun _ => False) rfl rfl ?aP (fun _ hk => hk.elim) ?aF ?aO ?aB ?aS ?aL ?_; (case aP => exact rfl); (case aB => exact (BU HB.out)); (case aF => exact (fun k_ hk => Kd.fresh' (Kd.R_lt (RU HO750.out)) k_ hk)); (case aO => exact (RU (Kd.R_mono HO_4.out (fun _ hk => hk.2)))); (case aS => exact (below_size (BU HB.out))); (case aL => have := LMc38.out; omega); intro v752 w42 ho hb hg hat; rw [← Ny751.out] at ho; have n0_ := Aside0.mk (Kd.R_over' (RU HO_3.out) (Kd.R_typed (RU HO_4.out)) (by decide) hg); have n1_ := Aside0.mk (Kd.R_over' (RU HO_6.out) (Kd.R_typed (RU HO_4.out)) (by decide) hg); have n2_ := Aside0.mk (Kd.R_after (ok := (fun _ => True)) (RU HO750.out) hg hat); have n3_ := Aside0.mk (hb); have n4_ := Aside0.mk (ho); clear HO_3 HO_6 HO750 HB HO_4; have HO_3 := n0_; have HO_6 := n1_; have HO750 := n2_; have HB := n3_; have HO753 := n4_; clear n0_ n1_ n2_ n3_ n4_; clear ho hb hg hat; obtain ⟨Ao44, co44, eo44⟩ := Kd.R_slice HO750.out; subst eo44) | ((with_reducible refine gate_builtin (b := .append) (xs := #[.tmp 88, .tmp 89]) rfl ?_); at_builtin; refine Kd.R_append_rows (Kd.int .u8) (w0 := w) w.heap.size rfl (.tmp 88) (.tmp 89) 25 5 (.int .u8 0) 1 rfl Tryz.underlying25 info5 rfl (by decide) (by omega) v752 y751 t747 _ _ _ (fun k_ => some k_ ≠ (.slice Ao44 t747.length co44 : Value).ownBlock) (fun _ => False) rfl rfl ?aO ?aR (fun _ _ h => h) (fun _ h => h.elim) ?aF ?aB ?aS ?aL ?_; (case aR => exact CU ((Kd.R_reads' HO750.out).2.2)); (case aB => exact (BU HB.out)); (case aF => exact (fun k_ hk => Kd.fresh' (Kd.R_lt (RU HO750.out)) k_ hk)); (case aO => exact (RU HO753.out)); (case aS => exact (below_size (BU HB.out))); (case aL => have := LMc39.out; omega); intro v755 w43 ho hb hg hat; rw [← Ny754.out] at ho; have n0_ := Aside0.mk (Kd.R_over' (RU HO_3.out) (Kd.R_typed (RU HO753.out)) (by decide) hg); have n1_ := Aside0.mk (Kd.R_over' (RU HO_6.out) (Kd.R_typed (RU HO753.out)) (by decide) hg); have n2_ := Aside0.mk (Kd.R_after (ok := (fun _ => True)) (RU HO750.out) hg hat); have n3_ := Aside0.mk (hb); have n4_ := Aside0.mk (ho); clear HO_3 HO_6 HO750 HB HO753; have HO_3 := n0_; have HO_6 := n1_; have HO750 := n2_; have HB := n3_; have HO756 := n4_; clear n0_ n1_ n2_ n3_ n4_; clear ho hb hg hat))
         go_ret
         exact ⟨_, by first | rfl | (simp [errW_none, errW_some] <;> rfl) | (simp [*, errW_none, errW_some] <;> rfl), RU (Kd.R_mono HO756.out (fun _ hk => trivial)), BU HB.out⟩
        ·rw [if_neg c39] at H
         exact absurd H (by simp)
       ·rw [if_neg c38] at H
        exact absurd H (by simp)

end Go.Proofs.YtefcchpjbojdkaaGreatDoor.PChunkPuts
