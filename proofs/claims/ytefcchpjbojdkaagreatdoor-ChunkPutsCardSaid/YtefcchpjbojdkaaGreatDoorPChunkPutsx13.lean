/- WRITTEN BY A PROGRAM of this session (wip/tool: a turned copy of the printer), out of the translation: Lean functions with the answers of the Go functions, and the proofs that the Go code comes to them. -/
import Derived.Test.YtefcchpjbojdkaaGreatDoorPChunkPutsx0
import Derived.Test.YtefcchpjbojdkaaGreatDoorPChunkPutsx3
import Derived.Test.YtefcchpjbojdkaaGreatDoorPChunkPutsx4
import Derived.Test.YtefcchpjbojdkaaGreatDoorPChunkPutsx5
import Derived.Test.YtefcchpjbojdkaaGreatDoorPChunkPutsx6
import Derived.Test.YtefcchpjbojdkaaGreatDoorPChunkPutsx8
import Derived.Test.YtefcchpjbojdkaaGreatDoorPChunkPutsx11
import Derived.Test.YtefcchpjbojdkaaGreatDoorPChunkPutsx12
namespace Go.Proofs.YtefcchpjbojdkaaGreatDoor.PChunkPuts
open Go.RowKit Go.Proofs.YtefcchpjbojdkaaGreatDoorW.PrintWords Go.Proofs.YtefcchpjbojdkaaGreatDoorW.PrintLast Go.Proofs.YtefcchpjbojdkaaGreatDoorW.PrintMore
attribute [local go_sem] max2_int min2_int max_two min_two max_three min_three max_four min_four   -- for this text's walks alone
set_option linter.unusedVariables false
set_option linter.unusedSimpArgs false

/-! ### slices_Contains_bool_bool: function 98 -/
def slices_Min_int64_int64.l0 : Nat → List Int → Int → Int → Option (Int)
 | 0, _, _, _ => none
 | k + 1, x0, x3, x4 => if x4 < (x0.length : Int) then (if 0 ≤ x4 then (slices_Min_int64_int64.l0 k x0 (mn x3 (rd x0 x4)) (wrap64 (x4 + 1))) else (none)) else (some x3)
def slices_Min_int64_int64.f (k : Nat) (l0 : List Int) : Option (Int) := if (l0.length : Int) < 1 then (none) else (if 0 < (l0.length : Int) then (slices_Min_int64_int64.l0 k l0 (rd l0 0) 1) else (none))
set_option maxHeartbeats 8000000 in
set_option maxRecDepth 100000 in
theorem slices_Min_int64_int64.calls (k : Nat) (A0 : Option Addr) (c0 : Nat) (l0 : List Int) (r : Int) (w : World) (hr0 : Kd.C (Kd.int .i64) w A0 l0.length l0) (hc0 : l0.length ≤ c0) (h : slices_Min_int64_int64.f k l0 = some r) :
  Calls Tryz.prog 99 #[.slice A0 l0.length c0] w fun e w' => e = .returned (.int .i64 r) ∧ Below w.heap.size w w' := by
 have HR0 := Aside0.mk hr0
 have HC0 := Aside0.mk hc0
 clear hr0 hc0
 have HB := Aside0.mk (Below.refl w.heap.size w)
 have H : (if (l0.length : Int) < 1 then (none) else (if 0 < (l0.length : Int) then (slices_Min_int64_int64.l0 k l0 (rd l0 0) 1) else (none))) = some r := h
 clear h
 by_cases c2 : (l0.length : Int) < 1
 ·rw [if_pos c2] at H
  exact absurd H (by simp)
 ·rw [if_neg c2] at H
  have c2b0 : decide ((l0.length : Int) < 1) = false := decide_eq_false c2
  have c2b1 : decide (l0.length < 1) = false := decide_eq_false (by omega)
  clear c2
  by_cases c3 : 0 < (l0.length : Int)
  ·rw [if_pos c3] at H
   have c3b0 : decide (0 < (l0.length : Int)) = true := decide_eq_true c3
   have c3b1 : decide (0 < l0.length) = true := decide_eq_true (by omega)
   clear c3
   have H' := Aside0.mk H
   clear H
   have p517 : 0 ≤ (0 : Int) := (by omega)
   have q517 : 0 < (l0.length : Int) := OD
   obtain ⟨ad517, e517, hx517_0⟩ := Kd.at_int HR0.out 0 p517 q517
   cases e517
   have qi517 : (0 < l0.length) = True := eq_true (by omega)
   (try rw [show ((0 : Int)).toNat = 0 from rfl] at hx517_0)
   (try rw [Addr.add_zero'] at hx517_0)
   replace p517 := eq_true p517
   replace q517 := eq_true q517
   go_enter Tryz.func99, Tryz.ntmps99
   go_wp2
   go_loopg [3, 4] k (fun kq v3 v4 w' => ∃ (x3_1 : Int) (x4_1 : Int), v3 = .int .i64 x3_1 ∧ v4 = .int .i64 x4_1 ∧ Aside0 (slices_Min_int64_int64.l0 kq l0 x3_1 x4_1 = some r) ∧ Aside0 (kq ≤ k) ∧ Aside0 (Below w.heap.size w w'))
   case atStart => exact ⟨(rd l0 0), (1), EB, EB, H', ⟨Nat.le_refl _⟩, ⟨BU HB.out⟩⟩
   case round =>
    clear H'
    try clear c2
    try clear c2b0
    try clear c2b1
    try clear p2
    try clear c3
    try clear c3b0
    try clear c3b1
    try clear hx517_0
    try clear p517
    try clear q517
    obtain ⟨x3_1, x4_1, rfl, rfl, HA, HK1, HB⟩ := hrel
    cases gk with
    | zero => exact absurd HA.out (by simp [slices_Min_int64_int64.l0])
    | succ k1 =>
     have H := HA.out
     clear HA
     simp only [slices_Min_int64_int64.l0] at H
     by_cases c4 : x4_1 < (l0.length : Int)
     ·rw [if_pos c4] at H
      have c4b0 : decide (x4_1 < (l0.length : Int)) = true := decide_eq_true c4
      clear c4
      by_cases c5 : 0 ≤ x4_1
      ·rw [if_pos c5] at H
       have c5b0 : decide (0 ≤ x4_1) = true := decide_eq_true c5
       clear c5
       obtain ⟨ji6, hji6⟩ : ∃ j_ : Int, (mn x3_1 (rd l0 x4_1)) = j_ := ⟨_, rfl⟩
       replace H : (slices_Min_int64_int64.l0 k1 l0 ji6 (wrap64 (x4_1 + 1))) = some r := by first | (rw [hji6] at H; exact H) | (simp only [hji6] at H ⊢; exact H)
       have hji6_ : (if (rd l0 x4_1) < x3_1 then (rd l0 x4_1) else x3_1) = ji6 := hji6
       have H' := Aside0.mk H
       clear H
       have p518 : 0 ≤ (x4_1 : Int) := OD
       have q518 : x4_1 < (l0.length : Int) := OD
       obtain ⟨ad518, e518, hx518_0⟩ := Kd.at_int HR0.out x4_1 p518 q518
       obtain rfl : ad517 = ad518 := (by injection e518)
       replace hx518_0 := (HB.out.cell (World.block_lt_of_cell? w _ hx518_0)).trans hx518_0
       replace p518 := eq_true p518
       replace q518 := eq_true q518
       go_wp2
       go_roundg k1
       case measure => have := HK1.out; omega
       case rel => exact ⟨(ji6), (wrap64 (x4_1 + 1)), (by first | rfl | (simp; done) | (simp only [← hji6] <;> (first | rfl | simp)) | (simp [*]; done)), EB, H', ⟨by have := HK1.out; omega⟩, ⟨BU HB.out⟩⟩
      ·rw [if_neg c5] at H
       exact absurd H (by simp)
     ·rw [if_neg c4] at H
      have c4b0 : decide (x4_1 < (l0.length : Int)) = false := decide_eq_false c4
      clear c4
      obtain rfl := Option.some.inj H
      go_wp2
      go_ret
      exact ⟨by first | rfl | (simp [errW_none, errW_some] <;> rfl) | (simp [*, errW_none, errW_some] <;> rfl), BU HB.out⟩
  ·rw [if_neg c3] at H
   exact absurd H (by simp)

/-! ### fore_Put: function 52 -/
def fore_Put.l0 : Nat → Int → List Int → List Int → Int → Int → Option (List Int × Int)
 | 0, _, _, _, _, _ => none
 | k + 1, x4, x5, x21, x22, x23 => if x23 < x22 then (if 0 ≤ x23 then (if x23 < (x21.length : Int) then (if x5.length < 17592186044416 then (fore_Put.l0 k x4 (x5 ++ [IntKind.u64.wrap ((IntKind.u64.wrap (rd x21 x23)) - (IntKind.u64.wrap (x4)))]) x21 x22 (wrap64 (x23 + 1))) else (none)) else (none)) else (none)) else ((bits_Width.f k x5).bind fun t524 => ((bits_Pack.f k x5 t524).bind fun bt525 => ((num_Zig.f x4).bind fun t529 => ((num_PutVar.f k ([] : List Int) t529).bind fun t530 => (if t530.length < 140737488355328 then ((some (t530 ++ [(t524) % 256] : List Int)).bind fun y533 => (if y533.length + bt525.1.length < 140737488355328 then (some ((y533 ++ bt525.1), bt525.2)) else (none))) else (none))))))
def fore_Put.f (k : Nat) (l0 : List Int) : Option (List Int × Int) := if (l0.length : Int) > 65536 then (some (([] : List Int), 12)) else (if (l0.length : Int) = 0 then (some (([] : List Int), 0)) else ((slices_Min_int64_int64.f k l0).bind fun t519 => (fore_Put.l0 k t519 ([] : List Int) l0 (l0.length : Int) 0)))
set_option maxHeartbeats 8000000 in
set_option maxRecDepth 100000 in
theorem fore_Put.calls (k : Nat) (A0 : Option Addr) (c0 : Nat) (l0 : List Int) (r1 : List Int) (r2 : Int) (w : World) (hr0 : Kd.C (Kd.int .i64) w A0 l0.length l0) (hc0 : l0.length ≤ c0) (h : fore_Put.f k l0 = some (r1, r2)) :
  Calls Tryz.prog 52 #[.slice A0 l0.length c0] w fun e w' => ∃ v0_ : Value, e = .returned (.tuple #[v0_, .int .i64 r2]) ∧ Kd.R (Kd.int .u8) 5 w' w.heap.size (fun _ => True) v0_ r1 ∧ Below w.heap.size w w' := by
 have HR0 := Aside0.mk hr0
 have HC0 := Aside0.mk hc0
 clear hr0 hc0
 have HB := Aside0.mk (Below.refl w.heap.size w)
 have H : (if (l0.length : Int) > 65536 then (some (([] : List Int), 12)) else (if (l0.length : Int) = 0 then (some (([] : List Int), 0)) else ((slices_Min_int64_int64.f k l0).bind fun t519 => (fore_Put.l0 k t519 ([] : List Int) l0 (l0.length : Int) 0)))) = some (r1, r2) := h
 clear h
 by_cases c2 : (l0.length : Int) > 65536
 ·rw [if_pos c2] at H
  have c2b0 : decide (65536 < (l0.length : Int)) = true := decide_eq_true c2
  have c2b1 : decide (65536 < l0.length) = true := decide_eq_true (by omega)
  clear c2
  simp only [Option.some.injEq, Prod.mk.injEq] at H
  obtain ⟨rfl, rfl⟩ := H
  go_enter Tryz.func52, Tryz.ntmps52
  go_wp2
  go_ret2
  exact ⟨_, by first | rfl | (simp [errW_none, errW_some] <;> rfl) | (simp [*, errW_none, errW_some] <;> rfl), by first | exact Kd.R_nil _ _ _ _ _ | exact Kd.N_nil _ _ _ _ _ | exact Kd.V_nil _ _ _ _ _ | exact Kd.Q_nil _ _ _ _ _ | exact Kd.S_nil _ _ _ _ _, BU HB.out⟩
 ·rw [if_neg c2] at H
  have c2b0 : decide (65536 < (l0.length : Int)) = false := decide_eq_false c2
  have c2b1 : decide (65536 < l0.length) = false := decide_eq_false (by omega)
  clear c2
  by_cases c3 : (l0.length : Int) = 0
  ·rw [if_pos c3] at H
   have c3b0 : ((l0.length : Int) == 0) = true := beq_iff_eq.mpr c3
   have c3b1 : ((l0.length : Int) != 0) = false := bne_eq_false_iff_eq.mpr c3
   clear c3
   simp only [Option.some.injEq, Prod.mk.injEq] at H
   obtain ⟨rfl, rfl⟩ := H
   go_enter Tryz.func52, Tryz.ntmps52
   go_wp2
   go_ret2
   exact ⟨_, by first | rfl | (simp [errW_none, errW_some] <;> rfl) | (simp [*, errW_none, errW_some] <;> rfl), by first | exact Kd.R_nil _ _ _ _ _ | exact Kd.N_nil _ _ _ _ _ | exact Kd.V_nil _ _ _ _ _ | exact Kd.Q_nil _ _ _ _ _ | exact Kd.S_nil _ _ _ _ _, BU HB.out⟩
  ·rw [if_neg c3] at H
   have c3b0 : ((l0.length : Int) == 0) = false := beq_eq_false_iff_ne.mpr c3
   have c3b1 : ((l0.length : Int) != 0) = true := bne_iff_ne.mpr c3
   have c3b2 : ¬ (l0 = []) := fun h_ => c3 (by rw [h_]; rfl)
   replace H := Option.bind_eq_some_iff.mp H
   obtain ⟨t519, A40, H⟩ := H
   replace H : (fore_Put.l0 k t519 ([] : List Int) l0 (l0.length : Int) 0) = some (r1, r2) := H
   have A4 := Aside0.mk A40
   clear A40
   have H' := Aside0.mk H
   clear H
   go_enter Tryz.func52, Tryz.ntmps52
   go_wp2_with (first | ((with_reducible refine gate_callee (f := 99) rfl ?_); refine goesL_ (some 20) rfl rfl Tryz.func99 (by kernel_rfl) rfl #[.slice A0 l0.length c0] rfl EA ?_; (with_reducible refine (slices_Min_int64_int64.calls k _ _ l0 t519 _ ?side1 ?side2 A4.out).mono ?_); (case side1 => exact CU HR0.out); (case side2 => exact HC0.out); rintro e w5 ⟨rfl, hb⟩; refine ⟨_, rfl, ?_⟩; have n0_ := Aside0.mk (below_step (BU HB.out) hb); clear HB; have HB := n0_; clear n0_; (try clear hb); (try clear hb2); (try clear hk); (try clear hi)))
   go_loopg [5, 23] k (fun kq v5 v23 w' => ∃ (x5_1 : List Int) (x23_1 : Int), v23 = .int .i64 x23_1 ∧ Aside0 (fore_Put.l0 kq t519 x5_1 l0 (l0.length : Int) x23_1 = some (r1, r2)) ∧ Aside0 (kq ≤ k) ∧ Aside0 (Kd.R (Kd.int .u64) 66 w' w.heap.size (fun _ => True) v5 x5_1) ∧ Aside0 (Below w.heap.size w w'))
   case atStart => exact ⟨(([] : List Int)), (0), EB, H', ⟨Nat.le_refl _⟩, ⟨by first | exact Kd.R_nil _ _ _ _ _ | exact Kd.N_nil _ _ _ _ _ | exact Kd.V_nil _ _ _ _ _ | exact Kd.Q_nil _ _ _ _ _ | exact Kd.S_nil _ _ _ _ _⟩, ⟨BU HB.out⟩⟩
   case round =>
    clear H'
    try clear c2
    try clear c2b0
    try clear c2b1
    try clear p2
    try clear c3
    try clear c3b0
    try clear c3b1
    try clear c3b2
    try clear c5
    obtain ⟨x5_1, x23_1, rfl, HA, HK1, HO_5, HB⟩ := hrel
    cases gk with
    | zero => exact absurd HA.out (by simp [fore_Put.l0])
    | succ k1 =>
     have H := HA.out
     clear HA
     simp only [fore_Put.l0] at H
     by_cases c6 : x23_1 < (l0.length : Int)
     ·rw [if_pos c6] at H
      have c6b0 : decide (x23_1 < (l0.length : Int)) = true := decide_eq_true c6
      clear c6
      by_cases c7 : 0 ≤ x23_1
      ·rw [if_pos c7] at H
       have c7b0 : decide (0 ≤ x23_1) = true := decide_eq_true c7
       clear c7
       by_cases c8 : x23_1 < (l0.length : Int)
       ·rw [if_pos c8] at H
        have c8b0 : decide (x23_1 < (l0.length : Int)) = true := decide_eq_true c8
        clear c8
        by_cases c9 : x5_1.length < 17592186044416
        ·rw [if_pos c9] at H
         have LMc9 := Aside0.mk c9
         clear c9
         obtain ⟨y521, hy521⟩ : ∃ y_ : List Int, y_ = (x5_1 ++ [IntKind.u64.wrap ((IntKind.u64.wrap (rd l0 x23_1)) - (IntKind.u64.wrap (t519)))]) := ⟨_, rfl⟩
         replace H : (fore_Put.l0 k1 t519 y521 l0 (l0.length : Int) (wrap64 (x23_1 + 1))) = some (r1, r2) := by first | (rw [hy521]; with_reducible exact H) | (have H2_ := (Option.bind_some _ _).symm.trans H; rw [hy521]; with_reducible exact H2_) | (have H2_ := (Option.bind_some _ _).symm.trans H; with_reducible exact H2_) | with_reducible exact H | (rw [hy521]; exact H) | exact H
         have Ny521 := Aside0.mk hy521
         clear hy521
         have H' := Aside0.mk H
         clear H
         have p520 : 0 ≤ (x23_1 : Int) := OD
         have q520 : x23_1 < (l0.length : Int) := OD
         obtain ⟨ad520, e520, hx520_0⟩ := Kd.at_int HR0.out x23_1 p520 q520
         cases e520
         replace hx520_0 := (HB.out.cell (World.block_lt_of_cell? w _ hx520_0)).trans hx520_0
         replace p520 := eq_true p520
         replace q520 := eq_true q520
         go_wp2_with (first | ((with_reducible refine gate_builtin (b := .append) (xs := #[.tmp 27, .tmp 33]) rfl ?_); at_builtin; refine Kd.R_append (Kd.int .u64) (w0 := w) w.heap.size rfl (.tmp 27) (.tmp 33) 68 66 (.int .u64 0) 8 rfl Tryz.underlying68 info66 rfl (by decide) (by omega) u5 x5_1 (IntKind.u64.wrap ((IntKind.u64.wrap (rd l0 x23_1)) - (IntKind.u64.wrap (t519)))) [.int .u64 (IntKind.u64.wrap ((IntKind.u64.wrap (rd l0 x23_1)) - (IntKind.u64.wrap (t519))))] (fun _ => True) (fun _ => False) rfl rfl ?aP (fun _ hk => hk.elim) ?aF ?aO ?aB ?aS ?aL ?_; (case aP => exact rfl); (case aB => exact (BU HB.out)); (case aF => exact (fun _ _ => trivial)); (case aO => exact (RU HO_5.out)); (case aS => exact (below_size (BU HB.out))); (case aL => have := LMc9.out; omega); intro v522 w10 ho hb hg hat; rw [← Ny521.out] at ho; have n0_ := Aside0.mk (hb); have n1_ := Aside0.mk (ho); clear HB HO_5; have HB := n0_; have HO523 := n1_; clear n0_ n1_; clear ho hb hg hat))
         go_roundg k1
         case measure => have := HK1.out; omega
         case rel => exact ⟨(y521), (wrap64 (x23_1 + 1)), EB, H', ⟨by have := HK1.out; omega⟩, ⟨RU HO523.out⟩, ⟨BU HB.out⟩⟩
        ·rw [if_neg c9] at H
         exact absurd H (by simp)
       ·rw [if_neg c8] at H
        exact absurd H (by simp)
      ·rw [if_neg c7] at H
       exact absurd H (by simp)
     ·rw [if_neg c6] at H
      have c6b0 : decide (x23_1 < (l0.length : Int)) = false := decide_eq_false c6
      clear c6
      replace H := Option.bind_eq_some_iff.mp H
      obtain ⟨t524, A110, H⟩ := H
      replace H : ((bits_Pack.f k1 x5_1 t524).bind fun bt525 => ((num_Zig.f t519).bind fun t529 => ((num_PutVar.f k1 ([] : List Int) t529).bind fun t530 => (if t530.length < 140737488355328 then ((some (t530 ++ [(t524) % 256] : List Int)).bind fun y533 => (if y533.length + bt525.1.length < 140737488355328 then (some ((y533 ++ bt525.1), bt525.2)) else (none))) else (none))))) = some (r1, r2) := H
      have A11 := Aside0.mk A110
      clear A110
      replace H := Option.bind_eq_some_iff.mp H
      obtain ⟨⟨t525, t526⟩, A120, H⟩ := H
      replace H : ((num_Zig.f t519).bind fun t529 => ((num_PutVar.f k1 ([] : List Int) t529).bind fun t530 => (if t530.length < 140737488355328 then ((some (t530 ++ [(t524) % 256] : List Int)).bind fun y533 => (if y533.length + t525.length < 140737488355328 then (some ((y533 ++ t525), t526)) else (none))) else (none)))) = some (r1, r2) := H
      have A12 := Aside0.mk A120
      clear A120
      replace H := Option.bind_eq_some_iff.mp H
      obtain ⟨t529, A130, H⟩ := H
      replace H : ((num_PutVar.f k1 ([] : List Int) t529).bind fun t530 => (if t530.length < 140737488355328 then ((some (t530 ++ [(t524) % 256] : List Int)).bind fun y533 => (if y533.length + t525.length < 140737488355328 then (some ((y533 ++ t525), t526)) else (none))) else (none))) = some (r1, r2) := H
      have A13 := Aside0.mk A130
      clear A130
      replace H := Option.bind_eq_some_iff.mp H
      obtain ⟨t530, A140, H⟩ := H
      replace H : (if t530.length < 140737488355328 then ((some (t530 ++ [(t524) % 256] : List Int)).bind fun y533 => (if y533.length + t525.length < 140737488355328 then (some ((y533 ++ t525), t526)) else (none))) else (none)) = some (r1, r2) := H
      have A14 := Aside0.mk A140
      clear A140
      by_cases c15 : t530.length < 140737488355328
      ·rw [if_pos c15] at H
       have LMc15 := Aside0.mk c15
       clear c15
       obtain ⟨y533, hy533⟩ : ∃ y_ : List Int, y_ = (t530 ++ [(t524) % 256]) := ⟨_, rfl⟩
       replace H : (if y533.length + t525.length < 140737488355328 then (some ((y533 ++ t525), t526)) else (none)) = some (r1, r2) := by first | (rw [hy533]; with_reducible exact H) | (have H2_ := (Option.bind_some _ _).symm.trans H; rw [hy533]; with_reducible exact H2_) | (have H2_ := (Option.bind_some _ _).symm.trans H; with_reducible exact H2_) | with_reducible exact H | (rw [hy533]; exact H) | exact H
       have Ny533 := Aside0.mk hy533
       clear hy533
       by_cases c16 : y533.length + t525.length < 140737488355328
       ·rw [if_pos c16] at H
        have LMc16 := Aside0.mk c16
        clear c16
        obtain ⟨y536, hy536⟩ : ∃ y_ : List Int, y_ = (y533 ++ t525) := ⟨_, rfl⟩
        replace H : (some (y536, t526)) = some (r1, r2) := by first | (rw [hy536]; with_reducible exact H) | (have H2_ := (Option.bind_some _ _).symm.trans H; rw [hy536]; with_reducible exact H2_) | (have H2_ := (Option.bind_some _ _).symm.trans H; with_reducible exact H2_) | with_reducible exact H | (rw [hy536]; exact H) | exact H
        have Ny536 := Aside0.mk hy536
        clear hy536
        simp only [Option.some.injEq, Prod.mk.injEq] at H
        obtain ⟨rfl, rfl⟩ := H
        obtain ⟨Ao17, co17, eo17⟩ := Kd.R_slice HO_5.out
        subst eo17
        go_wp2_with (first | ((with_reducible refine gate_callee (f := 87) rfl ?_); refine goesL_ (some 37) rfl rfl Tryz.func87 (by kernel_rfl) rfl #[.slice Ao17 x5_1.length co17] rfl EA ?_; (with_reducible refine (bits_Width.calls k1 _ _ x5_1 t524 _ ?side1 ?side2 A11.out).mono ?_); (case side1 => exact CU ((Kd.R_reads' HO_5.out).2.2)); (case side2 => exact (Kd.R_reads' HO_5.out).2.1); rintro e w' ⟨rfl, ⟨nd, rfl⟩⟩; refine ⟨_, rfl, ?_⟩) | ((with_reducible refine gate_callee (f := 43) rfl ?_); refine goesL_ (some 41) rfl rfl Tryz.func43 (by kernel_rfl) rfl #[.slice Ao17 x5_1.length co17, .int .i64 t524] rfl EA ?_; (with_reducible refine (bits_Pack.calls k1 _ _ x5_1 t524 t525 t526 _ ?side1 ?side2 A12.out).mono ?_); (case side1 => exact CU ((Kd.R_reads' HO_5.out).2.2)); (case side2 => exact (Kd.R_reads' HO_5.out).2.1); rintro e w18 ⟨v527, rfl, ho0, hb⟩; refine ⟨_, rfl, ?_⟩; have n0_ := Aside0.mk (Kd.R_below (RU HO_5.out) hb); have n1_ := Aside0.mk (Kd.R_lower ho0 (below_size (BU HB.out))); have n2_ := Aside0.mk (below_step (BU HB.out) hb); clear HO_5 HB; have HO_5 := n0_; have HO528 := n1_; have HB := n2_; clear n0_ n1_ n2_; (try clear hb); (try clear hb2); (try clear hk); (try clear hi); (try clear ho0)) | ((with_reducible refine gate_callee (f := 78) rfl ?_); refine goesL_ (some 45) rfl rfl Tryz.func78 (by kernel_rfl) rfl #[.int .i64 t519] rfl EA ?_; (with_reducible refine (num_Zig.calls t519 t529 _ A13.out).mono ?_); rintro e w' ⟨rfl, ⟨nd, rfl⟩⟩; refine ⟨_, rfl, ?_⟩) | ((with_reducible refine gate_callee (f := 39) rfl ?_); refine goesL_ (some 46) rfl rfl Tryz.func39 (by kernel_rfl) rfl #[.slice none 0 0, .int .u64 t529] rfl EA ?_; (refine (num_PutVar.calls k1 (fun k_ => some k_ = (.slice none 0 0 : Value).ownBlock) (.slice none 0 0) ([] : List Int) t529 t530 w _ ?side1 ?side2 A14.out).mono ?_); (case side1 => repeat (first | (with_reducible first | exact HB.out | apply below_alloc | apply pw_below_drewN | apply below_drew1) | exact HB.out)); (case side2 => exact Kd.R_nil _ _ _ _ _); rintro e w19 ⟨v531, rfl, ho0, hb, hkp⟩; refine ⟨_, rfl, ?_⟩; have n0_ := Aside0.mk (Kd.R_mono (ok' := fun k_ => True) (Kd.R_keptB (HO_5.out) hkp (fun k_ hk_ hs_ => (fun e_ => by simp [Value.ownBlock] at e_) hs_)) (fun k_ hk_ => trivial)); have n1_ := Aside0.mk (Kd.R_mono (ok' := fun k_ => some k_ ≠ (v531 : Value).ownBlock) (Kd.R_keptB (HO528.out) hkp (fun k_ hk_ hs_ => (fun e_ => by simp [Value.ownBlock] at e_) hs_)) (fun k_ hk_ => fun e_ => Or.elim (ho0.1 k_ e_.symm) (fun hs_ => hk_.2.1 hs_) (fun hn_ => Nat.not_le.2 hk_.2.2 hn_))); have n2_ := Aside0.mk (Kd.R_mono (ok' := fun k_ => some k_ ≠ (v527 : Value).ownBlock) ho0 (fun k_ hk_ => Or.elim hk_ (fun hs_ => absurd hs_ (by simp [Value.ownBlock])) (fun hn_ => (Kd.fresh' (Kd.R_lt (RU HO528.out)) k_ hn_)))); have n3_ := Aside0.mk (hb); clear HO_5 HO528 HB; have HO_5 := n0_; have HO528 := n1_; have HO532 := n2_; have HB := n3_; clear n0_ n1_ n2_ n3_; (try clear hb); (try clear hkp); (try clear ho0)) | ((with_reducible refine gate_builtin (b := .append) (xs := #[.tmp 46, .tmp 49]) rfl ?_); at_builtin; refine Kd.R_append (Kd.int .u8) (w0 := w) w.heap.size rfl (.tmp 46) (.tmp 49) 25 5 (.int .u8 0) 1 rfl Tryz.underlying25 info5 rfl (by decide) (by omega) v531 t530 ((t524) % 256) [.int .u8 ((t524) % 256)] (fun k_ => some k_ ≠ (v527 : Value).ownBlock) (fun _ => False) rfl rfl ?aP (fun _ hk => hk.elim) ?aF ?aO ?aB ?aS ?aL ?_; (case aP => exact rfl); (case aB => exact (BU HB.out)); (case aF => exact (fun k_ hk => Kd.fresh' (Kd.R_lt (RU HO528.out)) k_ hk)); (case aO => exact (RU HO532.out)); (case aS => exact (below_size (BU HB.out))); (case aL => have := LMc15.out; omega); intro v534 w20 ho hb hg hat; rw [← Ny533.out] at ho; have n0_ := Aside0.mk (Kd.R_over' (RU HO_5.out) (Kd.R_typed (RU HO532.out)) (by decide) hg); have n1_ := Aside0.mk (Kd.R_after (ok := (fun _ => True)) (RU (Kd.R_mono HO528.out (fun _ hk => ⟨trivial, hk⟩))) hg hat); have n2_ := Aside0.mk (hb); have n3_ := Aside0.mk (ho); clear HO_5 HO528 HB HO532; have HO_5 := n0_; have HO528 := n1_; have HB := n2_; have HO535 := n3_; clear n0_ n1_ n2_ n3_; clear ho hb hg hat; obtain ⟨Ao22, co22, eo22⟩ := Kd.R_slice HO528.out; subst eo22) | ((with_reducible refine gate_builtin (b := .append) (xs := #[.tmp 50, .tmp 51]) rfl ?_); at_builtin; refine Kd.R_append_rows (Kd.int .u8) (w0 := w) w.heap.size rfl (.tmp 50) (.tmp 51) 25 5 (.int .u8 0) 1 rfl Tryz.underlying25 info5 rfl (by decide) (by omega) v534 y533 t525 _ _ _ (fun k_ => some k_ ≠ (.slice Ao22 t525.length co22 : Value).ownBlock) (fun _ => False) rfl rfl ?aO ?aR (fun _ _ h => h) (fun _ h => h.elim) ?aF ?aB ?aS ?aL ?_; (case aR => exact CU ((Kd.R_reads' HO528.out).2.2)); (case aB => exact (BU HB.out)); (case aF => exact (fun k_ hk => Kd.fresh' (Kd.R_lt (RU HO528.out)) k_ hk)); (case aO => exact (RU HO535.out)); (case aS => exact (below_size (BU HB.out))); (case aL => have := LMc16.out; omega); intro v537 w21 ho hb hg hat; rw [← Ny536.out] at ho; have n0_ := Aside0.mk (Kd.R_over' (RU HO_5.out) (Kd.R_typed (RU HO535.out)) (by decide) hg); have n1_ := Aside0.mk (Kd.R_after (ok := (fun _ => True)) (RU HO528.out) hg hat); have n2_ := Aside0.mk (hb); have n3_ := Aside0.mk (ho); clear HO_5 HO528 HB HO535; have HO_5 := n0_; have HO528 := n1_; have HB := n2_; have HO538 := n3_; clear n0_ n1_ n2_ n3_; clear ho hb hg hat))
        go_ret2
        exact ⟨_, by first | rfl | (simp [errW_none, errW_some] <;> rfl) | (simp [*, errW_none, errW_some] <;> rfl), RU (Kd.R_mono HO538.out (fun _ hk => trivial)), BU HB.out⟩
       ·rw [if_neg c16] at H
        exact absurd H (by simp)
      ·rw [if_neg c15] at H
       exact absurd H (by simp)

end Go.Proofs.YtefcchpjbojdkaaGreatDoor.PChunkPuts
