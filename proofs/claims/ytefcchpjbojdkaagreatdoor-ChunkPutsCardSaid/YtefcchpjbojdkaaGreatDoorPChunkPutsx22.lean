/- WRITTEN BY A PROGRAM of this session (wip/tool: a turned copy of the printer), out of the translation: Lean functions with the answers of the Go functions, and the proofs that the Go code comes to them. -/
import Derived.Test.YtefcchpjbojdkaaGreatDoorPChunkPutsx0
import Derived.Test.YtefcchpjbojdkaaGreatDoorPChunkPutsx16
import Derived.Test.YtefcchpjbojdkaaGreatDoorPChunkPutsx18
import Derived.Test.YtefcchpjbojdkaaGreatDoorPChunkPutsx19
import Derived.Test.YtefcchpjbojdkaaGreatDoorPChunkPutsx21
namespace Go.Proofs.YtefcchpjbojdkaaGreatDoor.PChunkPuts
open Go.RowKit Go.Proofs.YtefcchpjbojdkaaGreatDoorW.PrintWords Go.Proofs.YtefcchpjbojdkaaGreatDoorW.PrintLast Go.Proofs.YtefcchpjbojdkaaGreatDoorW.PrintMore
attribute [local go_sem] max2_int min2_int max_two min_two max_three min_three max_four min_four   -- for this text's walks alone
set_option linter.unusedVariables false
set_option linter.unusedSimpArgs false

/-! ### estreatref13_Put: function 31 -/
mutual
def estreatref13_Put.l0 : Nat → List ByteArray → List ByteArray → List Int → Int → Option (List Int)
 | 0, _, _, _, _ => none
 | k + 1, x0, x3, x4, x5 => if x5 < (x3.length : Int) then (if 0 ≤ x5 then ((estreatref01_BlobS.f k (rdOf ByteArray.empty x3 x5)).bind fun t822 => (if x4.length + t822.length < 140737488355328 then (estreatref13_Put.l0 k x0 x3 (x4 ++ t822) (wrap64 (x5 + 1))) else (none))) else (none)) else (estreatref13_Put.l1 k x0 x3 x4 ([] : List Int) 0)
def estreatref13_Put.l1 : Nat → List ByteArray → List ByteArray → List Int → List Int → Int → Option (List Int)
 | 0, _, _, _, _, _ => none
 | k + 1, x0, x3, x4, x6, x7 => if x7 < (x0.length : Int) then (if 0 ≤ x7 then ((estreatref13_Place.f k x3 (rdOf ByteArray.empty x0 x7)).bind fun bt829 => (if x6.length < 17592186044416 then (estreatref13_Put.l1 k x0 x3 x4 (x6 ++ [IntKind.u64.wrap (bt829.1)]) (wrap64 (x7 + 1))) else (none))) else (none)) else ((estreatref11_Width.f k (x3.length : Int)).bind fun t834 => ((estreatref02_Pack.f k x6 t834).bind fun bt835 => (if x4.length < 140737488355328 then ((some (x4 ++ [(t834) % 256] : List Int)).bind fun y839 => (if y839.length + bt835.1.length < 140737488355328 then (some (y839 ++ bt835.1)) else (none))) else (none))))
end
def estreatref13_Put.f (k : Nat) (l0 : List ByteArray) : Option (List Int) := (estreatref13_List.f k l0).bind fun t815 => ((estreatref01_Var.f k (IntKind.u64.wrap ((t815.length : Int)))).bind fun t818 => (estreatref13_Put.l0 k l0 t815 t818 0))
set_option maxHeartbeats 8000000 in
set_option maxRecDepth 100000 in
theorem estreatref13_Put.calls (k : Nat) (A0 : Option Addr) (c0 : Nat) (l0 : List ByteArray) (r : List Int) (w : World) (hr0 : Kd.C Kd.string w A0 l0.length l0) (hc0 : l0.length ≤ c0) (h : estreatref13_Put.f k l0 = some r) :
  Calls Tryz.prog 31 #[.slice A0 l0.length c0] w fun e w' => ∃ v0_ : Value, e = .returned (v0_) ∧ Kd.R (Kd.int .u8) 5 w' w.heap.size (fun _ => True) v0_ r ∧ Below w.heap.size w w' := by
 have HR0 := Aside0.mk hr0
 have HC0 := Aside0.mk hc0
 clear hr0 hc0
 have HB := Aside0.mk (Below.refl w.heap.size w)
 have H : ((estreatref13_List.f k l0).bind fun t815 => ((estreatref01_Var.f k (IntKind.u64.wrap ((t815.length : Int)))).bind fun t818 => (estreatref13_Put.l0 k l0 t815 t818 0))) = some r := h
 clear h
 replace H := Option.bind_eq_some_iff.mp H
 obtain ⟨t815, A20, H⟩ := H
 replace H : ((estreatref01_Var.f k (IntKind.u64.wrap ((t815.length : Int)))).bind fun t818 => (estreatref13_Put.l0 k l0 t815 t818 0)) = some r := H
 have A2 := Aside0.mk A20
 clear A20
 replace H := Option.bind_eq_some_iff.mp H
 obtain ⟨t818, A30, H⟩ := H
 replace H : (estreatref13_Put.l0 k l0 t815 t818 0) = some r := H
 have A3 := Aside0.mk A30
 clear A30
 have H' := Aside0.mk H
 clear H
 go_enter Tryz.func31, Tryz.ntmps31
 go_wp2_with (first | ((with_reducible refine gate_callee (f := 62) rfl ?_); refine goesL_ (some 14) rfl rfl Tryz.func62 (by kernel_rfl) rfl #[.slice A0 l0.length c0] rfl EA ?_; (with_reducible refine (estreatref13_List.calls k _ _ l0 t815 _ ?side1 ?side2 A2.out).mono ?_); (case side1 => exact CU HR0.out); (case side2 => exact HC0.out); rintro e w4 ⟨v816, rfl, ho0, hb⟩; refine ⟨_, rfl, ?_⟩; have n0_ := Aside0.mk (Kd.R_lower ho0 (below_size (BU HB.out))); have n1_ := Aside0.mk (below_step (BU HB.out) hb); clear HB; have HO817 := n0_; have HB := n1_; clear n0_ n1_; (try clear hb); (try clear hb2); (try clear hk); (try clear hi); (try clear ho0); obtain ⟨Ao5, co5, eo5⟩ := Kd.R_slice HO817.out; subst eo5) | ((with_reducible refine gate_callee (f := 54) rfl ?_); refine goesL_ (some 18) rfl rfl Tryz.func54 (by kernel_rfl) rfl #[.int .u64 (IntKind.u64.wrap ((t815.length : Int)))] rfl EA ?_; (with_reducible refine (estreatref01_Var.calls k (IntKind.u64.wrap ((t815.length : Int))) t818 _ A3.out).mono ?_); rintro e w6 ⟨v819, rfl, ho0, hb⟩; refine ⟨_, rfl, ?_⟩; have n0_ := Aside0.mk (Kd.R_below (RU HO817.out) hb); have n1_ := Aside0.mk (Kd.R_lower ho0 (below_size (BU HB.out))); have n2_ := Aside0.mk (below_step (BU HB.out) hb); clear HO817 HB; have HO817 := n0_; have HO820 := n1_; have HB := n2_; clear n0_ n1_ n2_; (try clear hb); (try clear hb2); (try clear hk); (try clear hi); (try clear ho0)))
 go_loopg [4, 5] k (fun kq v4 v5 w' => ∃ (x4_1 : List Int) (x5_1 : Int), v5 = .int .i64 x5_1 ∧ Aside0 (estreatref13_Put.l0 kq l0 t815 x4_1 x5_1 = some r) ∧ Aside0 (kq ≤ k) ∧ Aside0 (Kd.R Kd.string 9 w' w.heap.size (fun _ => True) (.slice Ao5 t815.length co5) t815) ∧ Aside0 (Kd.R (Kd.int .u8) 5 w' w.heap.size (fun _ => True) v4 x4_1) ∧ Aside0 (Below w.heap.size w w'))
 case atStart => exact ⟨(t818), (0), EB, H', ⟨Nat.le_refl _⟩, ⟨RU HO817.out⟩, ⟨RU HO820.out⟩, ⟨BU HB.out⟩⟩
 case round =>
  clear H'
  try clear p2
  try clear c3
  try clear c5
  try clear c6
  obtain ⟨x4_1, x5_1, rfl, HA, HK1, HO_3, HO_4, HB⟩ := hrel
  cases gk with
  | zero => exact absurd HA.out (by simp [estreatref13_Put.l0])
  | succ k1 =>
   have H := HA.out
   clear HA
   simp only [estreatref13_Put.l0] at H
   by_cases c7 : x5_1 < (t815.length : Int)
   ·rw [if_pos c7] at H
    have c7b0 : decide (x5_1 < (t815.length : Int)) = true := decide_eq_true c7
    clear c7
    by_cases c8 : 0 ≤ x5_1
    ·rw [if_pos c8] at H
     have c8b0 : decide (0 ≤ x5_1) = true := decide_eq_true c8
     clear c8
     replace H := Option.bind_eq_some_iff.mp H
     obtain ⟨t822, A90, H⟩ := H
     replace H : (if x4_1.length + t822.length < 140737488355328 then (estreatref13_Put.l0 k1 l0 t815 (x4_1 ++ t822) (wrap64 (x5_1 + 1))) else (none)) = some r := H
     have A9 := Aside0.mk A90
     clear A90
     by_cases c10 : x4_1.length + t822.length < 140737488355328
     ·rw [if_pos c10] at H
      have LMc10 := Aside0.mk c10
      clear c10
      obtain ⟨y825, hy825⟩ : ∃ y_ : List Int, y_ = (x4_1 ++ t822) := ⟨_, rfl⟩
      replace H : (estreatref13_Put.l0 k1 l0 t815 y825 (wrap64 (x5_1 + 1))) = some r := by first | (rw [hy825]; with_reducible exact H) | (have H2_ := (Option.bind_some _ _).symm.trans H; rw [hy825]; with_reducible exact H2_) | (have H2_ := (Option.bind_some _ _).symm.trans H; with_reducible exact H2_) | with_reducible exact H | (rw [hy825]; exact H) | exact H
      have Ny825 := Aside0.mk hy825
      clear hy825
      have H' := Aside0.mk H
      clear H
      have p821 : 0 ≤ (x5_1 : Int) := OD
      have q821 : x5_1 < (t815.length : Int) := OD
      obtain ⟨ad821, e821, hx821_0⟩ := Kd.at_string (Kd.R_reads' HO_3.out).2.2 x5_1 p821 q821
      cases e821
      replace p821 := eq_true p821
      replace q821 := eq_true q821
      go_wp2_with (first | (refine estreatref01_BlobS.wp k1 (rdOf ByteArray.empty t815 x5_1) t822 rfl rfl rfl rfl rfl rfl (fun _ => rfl) (by first | rfl | exact Or.inr trivial)  A9.out ?_; intro vcA9; rintro e w11 ⟨v823, rfl, ho0, hb⟩; refine ⟨_, rfl, ?_⟩; have n0_ := Aside0.mk (Kd.R_below (RU HO_3.out) hb); have n1_ := Aside0.mk (Kd.R_elder' (RU HO_4.out) (Kd.R_base ho0) hb); have n2_ := Aside0.mk (Kd.R_lower (Kd.R_new' ho0 (Kd.R_lt (RU HO_4.out))) (below_size (BU HB.out))); have n3_ := Aside0.mk (below_step (BU HB.out) hb); clear HO_3 HO_4 HB; have HO_3 := n0_; have HO_4 := n1_; have HO824 := n2_; have HB := n3_; clear n0_ n1_ n2_ n3_; (try clear hb); (try clear hb2); (try clear hk); (try clear hi); (try clear ho0); obtain ⟨Ao13, co13, eo13⟩ := Kd.R_slice HO824.out; subst eo13) | ((with_reducible refine gate_builtin (b := .append) (xs := #[.tmp 25, .tmp 31]) rfl ?_); at_builtin; refine Kd.R_append_rows (Kd.int .u8) (w0 := w) w.heap.size rfl (.tmp 25) (.tmp 31) 25 5 (.int .u8 0) 1 rfl Tryz.underlying25 info5 rfl (by decide) (by omega) u4 x4_1 t822 _ _ _ (fun k_ => some k_ ≠ (.slice Ao13 t822.length co13 : Value).ownBlock) (fun _ => False) rfl rfl ?aO ?aR (fun _ _ h => h) (fun _ h => h.elim) ?aF ?aB ?aS ?aL ?_; (case aR => exact CU ((Kd.R_reads' HO824.out).2.2)); (case aB => exact (BU HB.out)); (case aF => exact (fun k_ hk => Kd.fresh' (Kd.R_lt (RU HO824.out)) k_ hk)); (case aO => exact (RU (Kd.R_mono HO_4.out (fun _ hk => hk.2)))); (case aS => exact (below_size (BU HB.out))); (case aL => have := LMc10.out; omega); intro v826 w12 ho hb hg hat; rw [← Ny825.out] at ho; have n0_ := Aside0.mk (Kd.R_over' (RU HO_3.out) (Kd.R_typed (RU HO_4.out)) (by decide) hg); have n1_ := Aside0.mk (Kd.R_after (ok := (fun _ => True)) (RU HO824.out) hg hat); have n2_ := Aside0.mk (hb); have n3_ := Aside0.mk (ho); clear HO_3 HO824 HB HO_4; have HO_3 := n0_; have HO824 := n1_; have HB := n2_; have HO827 := n3_; clear n0_ n1_ n2_ n3_; clear ho hb hg hat))
      go_roundg k1
      case measure => have := HK1.out; omega
      case rel => exact ⟨(y825), (wrap64 (x5_1 + 1)), EB, H', ⟨by have := HK1.out; omega⟩, ⟨RU HO_3.out⟩, ⟨RU (Kd.R_mono HO827.out (fun _ hk => trivial))⟩, ⟨BU HB.out⟩⟩
     ·rw [if_neg c10] at H
      exact absurd H (by simp)
    ·rw [if_neg c8] at H
     exact absurd H (by simp)
   ·rw [if_neg c7] at H
    have c7b0 : decide (x5_1 < (t815.length : Int)) = false := decide_eq_false c7
    clear c7
    have H' := Aside0.mk H
    clear H
    go_wp2
    go_loopg [6, 7] k1 (fun kq v6 v7 w' => ∃ (x6_2 : List Int) (x7_2 : Int), v7 = .int .i64 x7_2 ∧ Aside0 (estreatref13_Put.l1 kq l0 t815 x4_1 x6_2 x7_2 = some r) ∧ Aside0 (kq ≤ k1) ∧ Aside0 (Kd.R Kd.string 9 w' w.heap.size (fun _ => True) (.slice Ao5 t815.length co5) t815) ∧ Aside0 (Kd.R (Kd.int .u8) 5 w' w.heap.size (fun _ => True) u4 x4_1) ∧ Aside0 (Kd.R (Kd.int .u64) 66 w' w.heap.size (fun _ => True) v6 x6_2) ∧ Aside0 (Below w.heap.size w w'))
    case atStart => exact ⟨(([] : List Int)), (0), EB, H', ⟨Nat.le_refl _⟩, ⟨RU HO_3.out⟩, ⟨RU HO_4.out⟩, ⟨by first | exact Kd.R_nil _ _ _ _ _ | exact Kd.N_nil _ _ _ _ _ | exact Kd.V_nil _ _ _ _ _ | exact Kd.Q_nil _ _ _ _ _ | exact Kd.S_nil _ _ _ _ _⟩, ⟨BU HB.out⟩⟩
    case round =>
     clear H'
     try clear c1
     try clear p2
     try clear c3
     try clear c5
     try clear c6
     try clear p6
     try clear c7
     try clear c7b0
     try clear c8
     try clear c8b0
     try clear p8
     try clear q8
     try clear hx8
     try clear c10
     try clear hx821_0
     try clear p2
     try clear p821
     try clear q821
     obtain ⟨x6_2, x7_2, rfl, HA, HK2, HO_3, HO_4, HO_6, HB⟩ := hrel
     cases gk with
     | zero => exact absurd HA.out (by simp [estreatref13_Put.l1])
     | succ k2 =>
      have H := HA.out
      clear HA
      simp only [estreatref13_Put.l1] at H
      by_cases c14 : x7_2 < (l0.length : Int)
      ·rw [if_pos c14] at H
       have c14b0 : decide (x7_2 < (l0.length : Int)) = true := decide_eq_true c14
       clear c14
       by_cases c15 : 0 ≤ x7_2
       ·rw [if_pos c15] at H
        have c15b0 : decide (0 ≤ x7_2) = true := decide_eq_true c15
        clear c15
        replace H := Option.bind_eq_some_iff.mp H
        obtain ⟨⟨t829, t830⟩, A160, H⟩ := H
        replace H : (if x6_2.length < 17592186044416 then (estreatref13_Put.l1 k2 l0 t815 x4_1 (x6_2 ++ [IntKind.u64.wrap (t829)]) (wrap64 (x7_2 + 1))) else (none)) = some r := H
        have A16 := Aside0.mk A160
        clear A160
        by_cases c17 : x6_2.length < 17592186044416
        ·rw [if_pos c17] at H
         have LMc17 := Aside0.mk c17
         clear c17
         obtain ⟨y831, hy831⟩ : ∃ y_ : List Int, y_ = (x6_2 ++ [IntKind.u64.wrap (t829)]) := ⟨_, rfl⟩
         replace H : (estreatref13_Put.l1 k2 l0 t815 x4_1 y831 (wrap64 (x7_2 + 1))) = some r := by first | (rw [hy831]; with_reducible exact H) | (have H2_ := (Option.bind_some _ _).symm.trans H; rw [hy831]; with_reducible exact H2_) | (have H2_ := (Option.bind_some _ _).symm.trans H; with_reducible exact H2_) | with_reducible exact H | (rw [hy831]; exact H) | exact H
         have Ny831 := Aside0.mk hy831
         clear hy831
         have H' := Aside0.mk H
         clear H
         have p828 : 0 ≤ (x7_2 : Int) := OD
         have q828 : x7_2 < (l0.length : Int) := OD
         obtain ⟨ad828, e828, hx828_0⟩ := Kd.at_string HR0.out x7_2 p828 q828
         cases e828
         replace hx828_0 := (HB.out.cell (World.block_lt_of_cell? w _ hx828_0)).trans hx828_0
         replace p828 := eq_true p828
         replace q828 := eq_true q828
         go_wp2_with (first | ((with_reducible refine gate_callee (f := 64) rfl ?_); refine goesL_ (some 45) rfl rfl Tryz.func64 (by kernel_rfl) rfl #[.slice Ao5 t815.length co5, .string (rdOf ByteArray.empty l0 x7_2)] rfl EA ?_; (with_reducible refine (estreatref13_Place.calls k2 _ _ t815 (rdOf ByteArray.empty l0 x7_2) t829 t830 _ ?side1 ?side2 A16.out).mono ?_); (case side1 => exact CU ((Kd.R_reads' HO_3.out).2.2)); (case side2 => exact (Kd.R_reads' HO_3.out).2.1); rintro e w' ⟨rfl, ⟨nd, rfl⟩⟩; refine ⟨_, rfl, ?_⟩) | ((with_reducible refine gate_builtin (b := .append) (xs := #[.tmp 48, .tmp 51]) rfl ?_); at_builtin; refine Kd.R_append (Kd.int .u64) (w0 := w) w.heap.size rfl (.tmp 48) (.tmp 51) 68 66 (.int .u64 0) 8 rfl Tryz.underlying68 info66 rfl (by decide) (by omega) u6 x6_2 (IntKind.u64.wrap (t829)) [.int .u64 (IntKind.u64.wrap (t829))] (fun _ => True) (fun _ => False) rfl rfl ?aP (fun _ hk => hk.elim) ?aF ?aO ?aB ?aS ?aL ?_; (case aP => exact rfl); (case aB => exact (BU HB.out)); (case aF => exact (fun _ _ => trivial)); (case aO => exact (RU HO_6.out)); (case aS => exact (below_size (BU HB.out))); (case aL => have := LMc17.out; omega); intro v832 w18 ho hb hg hat; rw [← Ny831.out] at ho; have n0_ := Aside0.mk (Kd.R_over' (RU HO_3.out) (Kd.R_typed (RU HO_6.out)) (by decide) hg); have n1_ := Aside0.mk (Kd.R_over' (RU HO_4.out) (Kd.R_typed (RU HO_6.out)) (by decide) hg); have n2_ := Aside0.mk (hb); have n3_ := Aside0.mk (ho); clear HO_3 HO_4 HB HO_6; have HO_3 := n0_; have HO_4 := n1_; have HB := n2_; have HO833 := n3_; clear n0_ n1_ n2_ n3_; clear ho hb hg hat))
         go_roundg k2
         case measure => have := HK1.out; have := HK2.out; omega
         case rel => exact ⟨(y831), (wrap64 (x7_2 + 1)), EB, H', ⟨by have := HK1.out; have := HK2.out; omega⟩, ⟨RU HO_3.out⟩, ⟨RU HO_4.out⟩, ⟨RU HO833.out⟩, ⟨BU HB.out⟩⟩
        ·rw [if_neg c17] at H
         exact absurd H (by simp)
       ·rw [if_neg c15] at H
        exact absurd H (by simp)
      ·rw [if_neg c14] at H
       have c14b0 : decide (x7_2 < (l0.length : Int)) = false := decide_eq_false c14
       clear c14
       replace H := Option.bind_eq_some_iff.mp H
       obtain ⟨t834, A190, H⟩ := H
       replace H : ((estreatref02_Pack.f k2 x6_2 t834).bind fun bt835 => (if x4_1.length < 140737488355328 then ((some (x4_1 ++ [(t834) % 256] : List Int)).bind fun y839 => (if y839.length + bt835.1.length < 140737488355328 then (some (y839 ++ bt835.1)) else (none))) else (none))) = some r := H
       have A19 := Aside0.mk A190
       clear A190
       replace H := Option.bind_eq_some_iff.mp H
       obtain ⟨⟨t835, t836⟩, A200, H⟩ := H
       replace H : (if x4_1.length < 140737488355328 then ((some (x4_1 ++ [(t834) % 256] : List Int)).bind fun y839 => (if y839.length + t835.length < 140737488355328 then (some (y839 ++ t835)) else (none))) else (none)) = some r := H
       have A20 := Aside0.mk A200
       clear A200
       by_cases c21 : x4_1.length < 140737488355328
       ·rw [if_pos c21] at H
        have LMc21 := Aside0.mk c21
        clear c21
        obtain ⟨y839, hy839⟩ : ∃ y_ : List Int, y_ = (x4_1 ++ [(t834) % 256]) := ⟨_, rfl⟩
        replace H : (if y839.length + t835.length < 140737488355328 then (some (y839 ++ t835)) else (none)) = some r := by first | (rw [hy839]; with_reducible exact H) | (have H2_ := (Option.bind_some _ _).symm.trans H; rw [hy839]; with_reducible exact H2_) | (have H2_ := (Option.bind_some _ _).symm.trans H; with_reducible exact H2_) | with_reducible exact H | (rw [hy839]; exact H) | exact H
        have Ny839 := Aside0.mk hy839
        clear hy839
        by_cases c22 : y839.length + t835.length < 140737488355328
        ·rw [if_pos c22] at H
         have LMc22 := Aside0.mk c22
         clear c22
         obtain ⟨y842, hy842⟩ : ∃ y_ : List Int, y_ = (y839 ++ t835) := ⟨_, rfl⟩
         replace H : (some y842) = some r := by first | (rw [hy842]; with_reducible exact H) | (have H2_ := (Option.bind_some _ _).symm.trans H; rw [hy842]; with_reducible exact H2_) | (have H2_ := (Option.bind_some _ _).symm.trans H; with_reducible exact H2_) | with_reducible exact H | (rw [hy842]; exact H) | exact H
         have Ny842 := Aside0.mk hy842
         clear hy842
         obtain rfl := Option.some.inj H
         go_wp2_with (first | ((with_reducible refine gate_callee (f := 61) rfl ?_); refine goesL_ (some 55) rfl rfl Tryz.func61 (by kernel_rfl) rfl #[.int .i64 (t815.length : Int)] rfl EA ?_; (with_reducible refine (estreatref11_Width.calls k2 (t815.length : Int) t834 _ A19.out).mono ?_); rintro e w' ⟨rfl, ⟨nd, rfl⟩⟩; refine ⟨_, rfl, ?_⟩; obtain ⟨Ao23, co23, eo23⟩ := Kd.R_slice HO_6.out; subst eo23) | ((with_reducible refine gate_callee (f := 59) rfl ?_); refine goesL_ (some 59) rfl rfl Tryz.func59 (by kernel_rfl) rfl #[.slice Ao23 x6_2.length co23, .int .i64 t834] rfl EA ?_; (with_reducible refine (estreatref02_Pack.calls k2 _ _ x6_2 t834 t835 t836 _ ?side1 ?side2 A20.out).mono ?_); (case side1 => exact CU ((Kd.R_reads' HO_6.out).2.2)); (case side2 => exact (Kd.R_reads' HO_6.out).2.1); rintro e w24 ⟨v837, rfl, ho0, hb⟩; refine ⟨_, rfl, ?_⟩; have n0_ := Aside0.mk (Kd.R_below (RU HO_3.out) hb); have n1_ := Aside0.mk (Kd.R_elder' (RU HO_4.out) (Kd.R_base ho0) hb); have n2_ := Aside0.mk (Kd.R_below (RU HO_6.out) hb); have n3_ := Aside0.mk (Kd.R_lower (Kd.R_new' ho0 (Kd.R_lt (RU HO_4.out))) (below_size (BU HB.out))); have n4_ := Aside0.mk (below_step (BU HB.out) hb); clear HO_3 HO_4 HO_6 HB; have HO_3 := n0_; have HO_4 := n1_; have HO_6 := n2_; have HO838 := n3_; have HB := n4_; clear n0_ n1_ n2_ n3_ n4_; (try clear hb); (try clear hb2); (try clear hk); (try clear hi); (try clear ho0)) | ((with_reducible refine gate_builtin (b := .append) (xs := #[.tmp 62, .tmp 65]) rfl ?_); at_builtin; refine Kd.R_append (Kd.int .u8) (w0 := w) w.heap.size rfl (.tmp 62) (.tmp 65) 25 5 (.int .u8 0) 1 rfl Tryz.underlying25 info5 rfl (by decide) (by omega) u4 x4_1 ((t834) % 256) [.int .u8 ((t834) % 256)] (fun k_ => some k_ ≠ (v837 : Value).ownBlock) (fun _ => False) rfl rfl ?aP (fun _ hk => hk.elim) ?aF ?aO ?aB ?aS ?aL ?_; (case aP => exact rfl); (case aB => exact (BU HB.out)); (case aF => exact (fun k_ hk => Kd.fresh' (Kd.R_lt (RU HO838.out)) k_ hk)); (case aO => exact (RU (Kd.R_mono HO_4.out (fun _ hk => hk.2)))); (case aS => exact (below_size (BU HB.out))); (case aL => have := LMc21.out; omega); intro v840 w25 ho hb hg hat; rw [← Ny839.out] at ho; have n0_ := Aside0.mk (Kd.R_over' (RU HO_3.out) (Kd.R_typed (RU HO_4.out)) (by decide) hg); have n1_ := Aside0.mk (Kd.R_over' (RU HO_6.out) (Kd.R_typed (RU HO_4.out)) (by decide) hg); have n2_ := Aside0.mk (Kd.R_after (ok := (fun _ => True)) (RU HO838.out) hg hat); have n3_ := Aside0.mk (hb); have n4_ := Aside0.mk (ho); clear HO_3 HO_6 HO838 HB HO_4; have HO_3 := n0_; have HO_6 := n1_; have HO838 := n2_; have HB := n3_; have HO841 := n4_; clear n0_ n1_ n2_ n3_ n4_; clear ho hb hg hat; obtain ⟨Ao27, co27, eo27⟩ := Kd.R_slice HO838.out; subst eo27) | ((with_reducible refine gate_builtin (b := .append) (xs := #[.tmp 66, .tmp 67]) rfl ?_); at_builtin; refine Kd.R_append_rows (Kd.int .u8) (w0 := w) w.heap.size rfl (.tmp 66) (.tmp 67) 25 5 (.int .u8 0) 1 rfl Tryz.underlying25 info5 rfl (by decide) (by omega) v840 y839 t835 _ _ _ (fun k_ => some k_ ≠ (.slice Ao27 t835.length co27 : Value).ownBlock) (fun _ => False) rfl rfl ?aO ?aR (fun _ _ h => h) (fun _ h => h.elim) ?aF ?aB ?aS ?aL ?_; (case aR => exact CU ((Kd.R_reads' HO838.out).2.2)); (case aB => exact (BU HB.out)); (case aF => exact (fun k_ hk => Kd.fresh' (Kd.R_lt (RU HO838.out)) k_ hk)); (case aO => exact (RU HO841.out)); (case aS => exact (below_size (BU HB.out))); (case aL => have := LMc22.out; omega); intro v843 w26 ho hb hg hat; rw [← Ny842.out] at ho; have n0_ := Aside0.mk (Kd.R_over' (RU HO_3.out) (Kd.R_typed (RU HO841.out)) (by decide) hg); have n1_ := Aside0.mk (Kd.R_over' (RU HO_6.out) (Kd.R_typed (RU HO841.out)) (by decide) hg); have n2_ := Aside0.mk (Kd.R_after (ok := (fun _ => True)) (RU HO838.out) hg hat); have n3_ := Aside0.mk (hb); have n4_ := Aside0.mk (ho); clear HO_3 HO_6 HO838 HB HO841; have HO_3 := n0_; have HO_6 := n1_; have HO838 := n2_; have HB := n3_; have HO844 := n4_; clear n0_ n1_ n2_ n3_ n4_; clear ho hb hg hat))
         go_ret
         exact ⟨_, by first | rfl | (simp [errW_none, errW_some] <;> rfl) | (simp [*, errW_none, errW_some] <;> rfl), RU (Kd.R_mono HO844.out (fun _ hk => trivial)), BU HB.out⟩
        ·rw [if_neg c22] at H
         exact absurd H (by simp)
       ·rw [if_neg c21] at H
        exact absurd H (by simp)

end Go.Proofs.YtefcchpjbojdkaaGreatDoor.PChunkPuts
