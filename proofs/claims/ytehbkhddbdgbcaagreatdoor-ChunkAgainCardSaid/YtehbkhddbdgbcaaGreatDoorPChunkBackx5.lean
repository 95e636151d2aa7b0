/- WRITTEN BY A PROGRAM of this session (wip/tool: a turned copy of the printer), out of the translation: Lean functions with the answers of the Go functions, and the proofs that the Go code comes to them. -/
import Derived.Test.YtehbkhddbdgbcaaGreatDoorPChunkBackx1
import Derived.Test.YtehbkhddbdgbcaaGreatDoorPChunkBackx3
import Derived.Test.YtehbkhddbdgbcaaGreatDoorPChunkBackx4
namespace Go.Proofs.YtehbkhddbdgbcaaGreatDoor.PChunkBack
open Go.RowKit Go.Proofs.YtehbkhddbdgbcaaGreatDoorW.PrintWords Go.Proofs.YtehbkhddbdgbcaaGreatDoorW.PrintLast Go.Proofs.YtehbkhddbdgbcaaGreatDoorW.PrintMore
attribute [local go_sem] max2_int min2_int max_two min_two max_three min_three max_four min_four   -- for this text's walks alone
set_option linter.unusedVariables false
set_option linter.unusedSimpArgs false

/-! ### runs_Get: function 46 -/
mutual
def runs_Get.j0 : Nat → List Int → Int → Bool → Option (List Int × Int)
 | 0, _, _, _ => none
 | k + 1, x0, x1, x20 => if x20 = true then (some (([] : List Int), 1)) else ((num_NewReader.f x0).bind fun bt143 => (runs_Get.l0 k x1 ([] : List Int) bt143.1 bt143.2.1 bt143.2.2.1 bt143.2.2.2))
def runs_Get.l0 : Nat → Int → List Int → List Int → Int → Int → Int → Option (List Int × Int)
 | 0, _, _, _, _, _, _ => none
 | k + 1, x1, x7, x148000, x148001, x148002, x148003 => if (x7.length : Int) < x1 then ((num_Reader_Var.f k x148000 x148001 x148002 x148003).bind fun bt153 => ((num_Reader_Var.f k x148000 bt153.2.1 bt153.2.2.1 bt153.2.2.2).bind fun bt157 => ((num_Zag.f bt157.1).bind fun t161 => ((num_Reader_Err.f x148000 bt157.2.1 bt157.2.2.1 bt157.2.2.2).bind fun bt162 => (if bt162.1 = 0 then (if bt153.1 ≥ (IntKind.u64.wrap (wrap64 (x1 - (x7.length : Int)))) then (some (([] : List Int), 5)) else (if (x7.length : Int) > 0 then (if 0 ≤ (wrap64 ((x7.length : Int) - 1)) then (if (wrap64 ((x7.length : Int) - 1)) < (x7.length : Int) then (if (rd x7 (wrap64 ((x7.length : Int) - 1))) = t161 then (some (([] : List Int), 4)) else (runs_Get.j2 k x1 x7 bt153.1 t161 x148000 bt162.2.2.1 bt162.2.2.2.1 bt162.2.2.2.2)) else (none)) else (none)) else (runs_Get.j2 k x1 x7 bt153.1 t161 x148000 bt162.2.2.1 bt162.2.2.2.1 bt162.2.2.2.2))) else (some (([] : List Int), bt162.1))))))) else ((num_Reader_End.f x148000 x148001 x148002 x148003).bind fun bt148 => (if bt148.1 = 0 then (some (x7, 0)) else (some (([] : List Int), bt148.1))))
def runs_Get.j2 : Nat → Int → List Int → Int → Int → List Int → Int → Int → Int → Option (List Int × Int)
 | 0, _, _, _, _, _, _, _, _ => none
 | k + 1, x1, x7, x8, x9, x148000, x148001, x148002, x148003 => runs_Get.l1 k x1 x7 x9 (IntKind.u64.wrap (x8 + 1)) 0 x148000 x148001 x148002 x148003
def runs_Get.l1 : Nat → Int → List Int → Int → Int → Int → List Int → Int → Int → Int → Option (List Int × Int)
 | 0, _, _, _, _, _, _, _, _, _ => none
 | k + 1, x1, x7, x9, x63, x64, x148000, x148001, x148002, x148003 => if x64 < x63 then (if x7.length < 17592186044416 then (runs_Get.l1 k x1 (x7 ++ [x9]) x9 x63 (IntKind.u64.wrap (x64 + 1)) x148000 x148001 x148002 x148003) else (none)) else (runs_Get.l0 k x1 x7 x148000 x148001 x148002 x148003)
end
def runs_Get.f (k : Nat) (l0 : List Int) (a1 : Int) : Option (List Int × Int) := if a1 < 0 then (runs_Get.j0 k l0 a1 true) else (runs_Get.j0 k l0 a1 (decide (a1 > 65536)))
set_option maxHeartbeats 8000000 in
set_option maxRecDepth 100000 in
theorem runs_Get.calls (k : Nat) (A0 : Option Addr) (c0 : Nat) (l0 : List Int) (a1 : Int) (r1 : List Int) (r2 : Int) (w : World) (hr0 : Kd.C (Kd.int .u8) w A0 l0.length l0) (hc0 : l0.length ≤ c0) (hG : HG w) (h : runs_Get.f k l0 a1 = some (r1, r2)) :
  Calls Tryz.prog 46 #[.slice A0 l0.length c0, .int .i64 a1] w fun e w' => ∃ v0_ : Value, e = .returned (.tuple #[v0_, .int .i64 r2]) ∧ Kd.R (Kd.int .i64) 2 w' w.heap.size (fun _ => True) v0_ r1 ∧ Below w.heap.size w w' := by
 have HR0 := Aside0.mk hr0; have HC0 := Aside0.mk hc0; clear hr0 hc0; have HB := Aside0.mk (Below.refl w.heap.size w); have H : (if a1 < 0 then (runs_Get.j0 k l0 a1 true) else (runs_Get.j0 k l0 a1 (decide (a1 > 65536)))) = some (r1, r2) := h; clear h; have HC3 := Aside0.mk H; clear H; go_enter Tryz.func46, Tryz.ntmps46
 go_upto_region 1 with (fail)
 go_cut [20] (fun v20 wc => ∃ (kq : Nat) (x20_2 : Bool), v20 = .bool x20_2 ∧ Aside0 (runs_Get.j0 kq l0 a1 x20_2 = some (r1, r2)) ∧ Aside0 (kq ≤ k) ∧ Aside0 (Below w.heap.size w wc))
 case first =>
  have H := HC3.out; clear HC3
  by_cases c4 : a1 < 0
  ·rw [if_pos c4] at H; have c4b0 := decide_eq_true c4; clear c4
   (first | rw [c4b0] | (simp only [i64_w, i32_w]; rw [c4b0]) | skip)
   have H' := Aside0.mk H; clear H; go_wp2; go_meet
   case rel => exact ⟨_, (true), EB, H', ⟨by first | omega | exact Nat.le_refl _⟩, ⟨BU HB.out⟩⟩
  ·rw [if_neg c4] at H; have c4b0 := decide_eq_false c4; clear c4
   (first | rw [c4b0] | (simp only [i64_w, i32_w]; rw [c4b0]) | skip)
   have H' := Aside0.mk H; clear H; go_wp2; go_meet
   case rel => exact ⟨_, (decide (a1 > 65536)), EB, H', ⟨by first | omega | exact Nat.le_refl _⟩, ⟨BU HB.out⟩⟩
 case rest =>
  clear HC3; (try clear p2); (try clear c4); (try clear c4b0); obtain ⟨kq, x20_2, rfl, HA, HJ2, HB⟩ := hcut
  cases kq with
  | zero => exact absurd HA.out (by simp [runs_Get.j0])
  | succ kj2 =>
   have H := HA.out; clear HA; simp only [runs_Get.j0] at H
   by_cases c5 : x20_2 = true
   ·subst c5
    have H1 : (some (([] : List Int), 1)) = some (r1, r2) := by rw [if_pos rfl] at H; exact H
    clear H; have H := H1; clear H1; simp only [Option.some.injEq, Prod.mk.injEq] at H; obtain ⟨rfl, rfl⟩ := H; go_wp2
    go_ret2
    exact ⟨_, ER, by first | exact Kd.R_nil _ _ _ _ _ | exact Kd.N_nil _ _ _ _ _ | exact Kd.V_nil _ _ _ _ _ | exact Kd.Q_nil _ _ _ _ _ | exact Kd.S_nil _ _ _ _ _, BU HB.out⟩
   ·replace c5 := Bool.eq_false_iff.mpr c5; subst c5
    have H1 : ((num_NewReader.f l0).bind fun bt143 => (runs_Get.l0 kj2 a1 ([] : List Int) bt143.1 bt143.2.1 bt143.2.2.1 bt143.2.2.2)) = some (r1, r2) := by rw [if_neg (show ¬ (false = true) by decide)] at H; exact H
    clear H; have H := H1; clear H1; replace H := Option.bind_eq_some_iff.mp H; obtain ⟨⟨t143, t144, t145, t146⟩, A60, H⟩ := H; (try dsimp only at H); have A6 := Aside0.mk A60; clear A60; have H' := Aside0.mk H; clear H
    go_wp2_with (first | (go_at_call 18; (with_reducible refine (num_NewReader.calls _ _ l0 t143 t144 t145 t146 w _ ?side1 ?side2 ?side3 hG A6.out).mono ?_); (case side1 => exact BU HB.out); (case side2 => exact CU ((Kd.C_below HR0.out HB.out))); (case side3 => exact HC0.out); rintro e w7 ⟨g147, rfl, hi, hb, hb2⟩; replace HB := Aside0.mk hb; have HI147 := Aside0.mk hi; clear hb hb2 hi))
    go_loopg [7] kj2 (fun kq v7 w' => ∃ (x7_2 : List Int) (x148001_2 : Int) (x148002_2 : Int) (x148003_2 : Int), Aside0 (runs_Get.l0 kq a1 x7_2 t143 x148001_2 x148002_2 x148003_2 = some (r1, r2)) ∧ Aside0 (kq ≤ kj2) ∧ Aside0 (Kd.R (Kd.int .i64) 2 w' w.heap.size (fun _ => True) v7 x7_2) ∧ Aside0 (IsS73 w w' g147 t143 x148001_2 x148002_2 x148003_2) ∧ Aside0 (Below w.heap.size w w'))
    case atStart => exact ⟨(([] : List Int)), (t144), (t145), (t146), H', ⟨Nat.le_refl _⟩, ⟨by first | exact Kd.R_nil _ _ _ _ _ | exact Kd.N_nil _ _ _ _ _ | exact Kd.V_nil _ _ _ _ _ | exact Kd.Q_nil _ _ _ _ _ | exact Kd.S_nil _ _ _ _ _⟩, ⟨IU73 HI147.out⟩, ⟨BV73 HI147.out HB.out⟩⟩
    case round =>
     clear H'; (try clear c1); (try clear p2); (try clear c4); (try clear c4b0); (try clear c5); (try clear p2); obtain ⟨x7_2, x148001_2, x148002_2, x148003_2, HA, HK2, HO_7, HI147, HB⟩ := hrel
     cases gk with
     | zero => exact absurd HA.out (by simp [runs_Get.l0])
     | succ k2 =>
      have H := HA.out; clear HA; simp only [runs_Get.l0] at H
      by_cases c8 : (x7_2.length : Int) < a1
      ·rw [if_pos c8] at H; have c8b0 := decide_eq_true c8; clear c8; replace H := Option.bind_eq_some_iff.mp H; obtain ⟨⟨t153, t154, t155, t156⟩, A90, H⟩ := H; (try dsimp only at H); have A9 := Aside0.mk A90; clear A90; replace H := Option.bind_eq_some_iff.mp H; obtain ⟨⟨t157, t158, t159, t160⟩, A100, H⟩ := H; (try dsimp only at H); have A10 := Aside0.mk A100; clear A100; replace H := Option.bind_eq_some_iff.mp H; obtain ⟨t161, A110, H⟩ := H; (try dsimp only at H); have A11 := Aside0.mk A110; clear A110; replace H := Option.bind_eq_some_iff.mp H; obtain ⟨⟨t162, t163, t164, t165, t166⟩, A120, H⟩ := H; (try dsimp only at H); have A12 := Aside0.mk A120; clear A120; have HC13 := Aside0.mk H; clear H; obtain ⟨Ao14, co14, eo14⟩ := Kd.R_slice HO_7.out; subst eo14
       go_upto_block 2 with (first | ((with_reducible refine gate_callee (f := 65) rfl ?_); refine goesL_ (some 28) rfl rfl Tryz.func65 (by kernel_rfl) rfl #[.pointer (some ⟨g147, 0, none⟩)] rfl EA ?_; (with_reducible refine (num_Reader_Var.calls k2 g147 t143 x148001_2 x148002_2 x148003_2 t153 t154 t155 t156 w _ ?side1 ?side2 A9.out).mono ?_); (case side1 => exact IU73 HI147.out); (case side2 => exact BV73 HI147.out HB.out); rintro e w15 ⟨rfl, hi, hb, hk⟩; refine ⟨_, rfl, ?_⟩; replace HO_7 := KR73 hk HI147 HO_7; replace HB := Aside0.mk hb; replace HI147 := Aside0.mk hi; clear hb hk hi) | ((with_reducible refine gate_callee (f := 65) rfl ?_); refine goesL_ (some 30) rfl rfl Tryz.func65 (by kernel_rfl) rfl #[.pointer (some ⟨g147, 0, none⟩)] rfl EA ?_; (with_reducible refine (num_Reader_Var.calls k2 g147 t143 t154 t155 t156 t157 t158 t159 t160 w _ ?side1 ?side2 A10.out).mono ?_); (case side1 => exact IU73 HI147.out); (case side2 => exact BV73 HI147.out HB.out); rintro e w16 ⟨rfl, hi, hb, hk⟩; refine ⟨_, rfl, ?_⟩; replace HO_7 := KR73 hk HI147 HO_7; replace HB := Aside0.mk hb; replace HI147 := Aside0.mk hi; clear hb hk hi) | ((with_reducible refine gate_callee (f := 71) rfl ?_); refine goesL_ (some 31) rfl rfl Tryz.func71 (by kernel_rfl) rfl #[.int .u64 t157] rfl EA ?_; (with_reducible refine (num_Zag.calls t157 t161 _ A11.out).mono ?_); rintro e w' ⟨rfl, ⟨nd, rfl⟩⟩; refine ⟨_, rfl, ?_⟩) | ((with_reducible refine gate_callee (f := 35) rfl ?_); refine goesL_ (some 34) rfl rfl Tryz.func35 (by kernel_rfl) rfl #[.pointer (some ⟨g147, 0, none⟩)] rfl EA ?_; (with_reducible refine (num_Reader_Err.calls g147 t143 t158 t159 t160 t162 t163 t164 t165 t166 w _ ?side1 ?side2 A12.out).mono ?_); (case side1 => exact IU73 HI147.out); (case side2 => exact BV73 HI147.out HB.out); rintro e w17 ⟨rfl, hi, hb, hk⟩; refine ⟨_, rfl, ?_⟩; replace HO_7 := KR73 hk HI147 HO_7; replace HB := Aside0.mk hb; replace HI147 := Aside0.mk hi; clear hb hk hi))
       (try simp only [Act.put, List.setIfInBounds_toArray, List.set_cons_zero, List.set_cons_succ])
       go_cut [] (fun wc => ∃ (kq : Nat), Aside0 (runs_Get.j2 kq a1 x7_2 t153 t161 t143 t164 t165 t166 = some (r1, r2)) ∧ Aside0 (kq ≤ k2) ∧ Aside0 (Kd.R (Kd.int .i64) 2 wc w.heap.size (fun _ => True) (.slice Ao14 x7_2.length co14) x7_2) ∧ Aside0 (IsS73 w wc g147 t143 t164 t165 t166) ∧ Aside0 (Below w.heap.size w wc))
       case first =>
        have H := HC13.out; clear HC13
        by_cases c18 : t162 = 0
        ·rw [if_pos c18] at H; have c18b0 : (t162 == 0) = true := beq_iff_eq.mpr c18; have c18b1 : (t162 != 0) = false := bne_eq_false_iff_eq.mpr c18; clear c18
         (first | rw [c18b0] | (simp only [i64_w, i32_w]; rw [c18b0]) | skip)
         by_cases c19 : t153 ≥ (IntKind.u64.wrap (wrap64 (a1 - (x7_2.length : Int))))
         ·rw [if_pos c19] at H; have c19b0 : decide ((IntKind.u64.wrap (wrap64 (a1 - (x7_2.length : Int)))) ≤ t153) = true := decide_eq_true c19; clear c19; simp only [Option.some.injEq, Prod.mk.injEq] at H; obtain ⟨rfl, rfl⟩ := H; go_wp2
          go_ret2
          exact ⟨_, ER, by first | exact Kd.R_nil _ _ _ _ _ | exact Kd.N_nil _ _ _ _ _ | exact Kd.V_nil _ _ _ _ _ | exact Kd.Q_nil _ _ _ _ _ | exact Kd.S_nil _ _ _ _ _, BV73 HI147.out HB.out⟩
         ·rw [if_neg c19] at H; have c19b0 : decide ((IntKind.u64.wrap (wrap64 (a1 - (x7_2.length : Int)))) ≤ t153) = false := decide_eq_false c19; clear c19
          by_cases c20 : (x7_2.length : Int) > 0
          ·rw [if_pos c20] at H; have c20b0 : decide (0 < (x7_2.length : Int)) = true := decide_eq_true c20; have c20b1 : decide (0 < x7_2.length) = true := decide_eq_true (by omega); clear c20
           obtain ⟨ji21, hji21⟩ : ∃ j_ : Int, (wrap64 ((x7_2.length : Int) - 1)) = j_ := ⟨_, rfl⟩
           replace H : (if 0 ≤ (ji21) then (if (ji21) < (x7_2.length : Int) then (if (rd x7_2 (ji21)) = t161 then (some (([] : List Int), 4)) else (runs_Get.j2 k2 a1 x7_2 t153 t161 t143 t164 t165 t166)) else (none)) else (none)) = some (r1, r2) := by first | (rw [hji21] at H; exact H) | (simp only [hji21] at H ⊢; exact H)
           have hji21w : (IntKind.i64.wrap ((x7_2.length : Int) - 1)) = ji21 := (i64_w _).trans hji21
           by_cases c22 : 0 ≤ (ji21)
           ·rw [if_pos c22] at H; have c22b0 := decide_eq_true c22; clear c22
            by_cases c23 : (ji21) < (x7_2.length : Int)
            ·rw [if_pos c23] at H; have c23b0 := decide_eq_true c23; clear c23
             by_cases c24 : (rd x7_2 (ji21)) = t161
             ·rw [if_pos c24] at H; have c24b0 : ((rd x7_2 (ji21)) == t161) = true := beq_iff_eq.mpr c24; have c24b1 : ((rd x7_2 (ji21)) != t161) = false := bne_eq_false_iff_eq.mpr c24; clear c24; simp only [Option.some.injEq, Prod.mk.injEq] at H; obtain ⟨rfl, rfl⟩ := H; have p167 : 0 ≤ ((ji21) : Int) := OD; have q167 : (ji21) < (x7_2.length : Int) := OD; obtain ⟨ad167, e167, hx167_0⟩ := Kd.at_int (Kd.R_reads' HO_7.out).2.2 (ji21) p167 q167
              cases e167
              replace p167 := eq_true p167; replace q167 := eq_true q167; go_wp2
              go_ret2
              exact ⟨_, by first | rfl | (simp [errW_none, errW_some] <;> rfl) | (simp only [← hji21]; first | rfl | (simp [errW_none, errW_some] <;> rfl)) | (simp [*, errW_none, errW_some] <;> rfl), by first | exact Kd.R_nil _ _ _ _ _ | exact Kd.N_nil _ _ _ _ _ | exact Kd.V_nil _ _ _ _ _ | exact Kd.Q_nil _ _ _ _ _ | exact Kd.S_nil _ _ _ _ _, BV73 HI147.out HB.out⟩
             ·rw [if_neg c24] at H; have c24b0 : ((rd x7_2 (ji21)) == t161) = false := beq_eq_false_iff_ne.mpr c24; have c24b1 : ((rd x7_2 (ji21)) != t161) = true := bne_iff_ne.mpr c24; have H' := Aside0.mk H; clear H; have p167 : 0 ≤ ((ji21) : Int) := OD; have q167 : (ji21) < (x7_2.length : Int) := OD; obtain ⟨ad167, e167, hx167_0⟩ := Kd.at_int (Kd.R_reads' HO_7.out).2.2 (ji21) p167 q167
              cases e167
              replace p167 := eq_true p167; replace q167 := eq_true q167; go_wp2; go_meet
              case rel => exact ⟨_, H', ⟨by have := HJ2.out; have := HK2.out; first | omega | exact Nat.le_refl _⟩, ⟨RU HO_7.out⟩, ⟨IU73 HI147.out⟩, ⟨BV73 HI147.out HB.out⟩⟩
            ·rw [if_neg c23] at H; exact absurd H (by simp)
           ·rw [if_neg c22] at H; exact absurd H (by simp)
          ·rw [if_neg c20] at H; have c20b0 : decide (0 < (x7_2.length : Int)) = false := decide_eq_false c20; have c20b1 : decide (0 < x7_2.length) = false := decide_eq_false (by omega); clear c20; have H' := Aside0.mk H; clear H; go_wp2; go_meet
           case rel => exact ⟨_, H', ⟨by have := HJ2.out; have := HK2.out; first | omega | exact Nat.le_refl _⟩, ⟨RU HO_7.out⟩, ⟨IU73 HI147.out⟩, ⟨BV73 HI147.out HB.out⟩⟩
        ·rw [if_neg c18] at H; have c18b0 : (t162 == 0) = false := beq_eq_false_iff_ne.mpr c18; have c18b1 : (t162 != 0) = true := bne_iff_ne.mpr c18
         (first | rw [c18b0] | (simp only [i64_w, i32_w]; rw [c18b0]) | skip)
         simp only [Option.some.injEq, Prod.mk.injEq] at H; obtain ⟨rfl, rfl⟩ := H; go_wp2
         go_ret2
         exact ⟨_, ER, by first | exact Kd.R_nil _ _ _ _ _ | exact Kd.N_nil _ _ _ _ _ | exact Kd.V_nil _ _ _ _ _ | exact Kd.Q_nil _ _ _ _ _ | exact Kd.S_nil _ _ _ _ _, BV73 HI147.out HB.out⟩
       case rest =>
        clear HC13; (try clear c1); (try clear p1); (try clear q1); (try clear hx1); (try clear c2); (try clear p2); (try clear c3); (try clear c4); (try clear c4b0); (try clear c5); (try clear c6); (try clear p6); (try clear c7); (try clear c8); (try clear c8b0); (try clear p16); (try clear q16); (try clear hx16); (try clear c18); (try clear c18b0); (try clear c18b1); (try clear c19); (try clear c19b0); (try clear c20); (try clear c20b0); (try clear c20b1); (try clear c22); (try clear c22b0); (try clear c23); (try clear c23b0); (try clear c24); (try clear c24b0); (try clear c24b1); (try clear hx167_0); (try clear p167); (try clear p2); (try clear q167); obtain ⟨kq, HA, HJ12, HO_7, HI147, HB⟩ := hcut
        cases kq with
        | zero => exact absurd HA.out (by simp [runs_Get.j2])
        | succ kj12 =>
         have H := HA.out; clear HA; simp only [runs_Get.j2] at H; have H' := Aside0.mk H; clear H; go_wp2
         go_loopg [7, 64] kj12 (fun kq v7 v64 w' => ∃ (x7_4 : List Int) (x64_4 : Int), v64 = .int .u64 x64_4 ∧ Aside0 (runs_Get.l1 kq a1 x7_4 t161 (IntKind.u64.wrap (t153 + 1)) x64_4 t143 t164 t165 t166 = some (r1, r2)) ∧ Aside0 (kq ≤ kj12) ∧ Aside0 (Kd.R (Kd.int .i64) 2 w' w.heap.size (fun _ => True) v7 x7_4) ∧ Aside0 (IsS73 w w' g147 t143 t164 t165 t166) ∧ Aside0 (Below w.heap.size w w'))
         case atStart => exact ⟨(x7_2), (0), EB, H', ⟨Nat.le_refl _⟩, ⟨RU HO_7.out⟩, ⟨IU73 HI147.out⟩, ⟨BV73 HI147.out HB.out⟩⟩
         case round =>
          clear H'; (try clear c1); (try clear p1); (try clear q1); (try clear hx1); (try clear c2); (try clear p2); (try clear c3); (try clear c4); (try clear c4b0); (try clear c5); (try clear c6); (try clear p6); (try clear c7); (try clear c8); (try clear c8b0); (try clear p16); (try clear q16); (try clear hx16); (try clear c18); (try clear c18b0); (try clear c18b1); (try clear c19); (try clear c19b0); (try clear c20); (try clear c20b0); (try clear c20b1); (try clear c22); (try clear c22b0); (try clear c23); (try clear c23b0); (try clear c24); (try clear c24b0); (try clear c24b1); (try clear hx167_0); (try clear p1); (try clear p16); (try clear p167); (try clear p2); (try clear p6); (try clear q1); (try clear q16); (try clear q167); obtain ⟨x7_4, x64_4, rfl, HA, HK4, HO_7, HI147, HB⟩ := hrel
          cases gk with
          | zero => exact absurd HA.out (by simp [runs_Get.l1])
          | succ k4 =>
           have H := HA.out; clear HA; simp only [runs_Get.l1] at H
           by_cases c25 : x64_4 < (IntKind.u64.wrap (t153 + 1))
           ·rw [if_pos c25] at H; have c25b0 := decide_eq_true c25; clear c25
            by_cases c26 : x7_4.length < 17592186044416
            ·rw [if_pos c26] at H; have LMc26 := Aside0.mk c26; clear c26
             obtain ⟨y168, hy168⟩ : ∃ y_ : List Int, y_ = (x7_4 ++ [t161]) := ⟨_, rfl⟩
             replace H : (runs_Get.l1 k4 a1 y168 t161 (IntKind.u64.wrap (t153 + 1)) (IntKind.u64.wrap (x64_4 + 1)) t143 t164 t165 t166) = some (r1, r2) := HY hy168 H; have Ny168 := Aside0.mk hy168; clear hy168; have H' := Aside0.mk H; clear H
             go_wp2_with (first | ((with_reducible refine gate_builtin (b := .append) (xs := #[.tmp 66, .tmp 68]) rfl ?_); at_builtin; refine Kd.R_append (Kd.int .i64) (w0 := w) w.heap.size rfl (.tmp 66) (.tmp 68) 51 2 (.int .i64 0) 8 rfl Tryz.underlying51 info2 rfl (by decide) (by omega) u7 x7_4 t161 [.int .i64 t161] (fun _ => True) (fun _ => False) rfl rfl ?aP (fun _ hk => hk.elim) ?aF ?aO ?aB ?aS ?aL ?_; (case aP => exact rfl); (case aB => exact (BV73 HI147.out HB.out)); (case aF => exact (fun _ _ => trivial)); (case aO => exact (RU HO_7.out)); (case aS => exact (below_size (BV73 HI147.out HB.out))); (case aL => have := LMc26.out; omega); intro v169 w27 ho hb hg hat; rw [← Ny168.out] at ho; replace HI147 := Aside0.mk (IsS73.grown (IU73 HI147.out) hg (IsS73.own_ne HI147.out HO_7.out (by decide))); replace HB := Aside0.mk hb; have HO170 := Aside0.mk ho; clear HO_7; clear ho hb hg hat))
             go_roundg k4
             case measure => have := HJ2.out; have := HK2.out; have := HJ12.out; have := HK4.out; omega
             case rel => exact ⟨(y168), (IntKind.u64.wrap (x64_4 + 1)), EB, H', ⟨by have := HJ2.out; have := HK2.out; have := HJ12.out; have := HK4.out; omega⟩, ⟨RU HO170.out⟩, ⟨IU73 HI147.out⟩, ⟨BV73 HI147.out HB.out⟩⟩
            ·rw [if_neg c26] at H; exact absurd H (by simp)
           ·rw [if_neg c25] at H; have c25b0 := decide_eq_false c25; clear c25; have H' := Aside0.mk H; clear H; go_wp2; go_roundg k4
            case measure => have := HJ2.out; have := HK2.out; have := HJ12.out; have := HK4.out; omega
            case rel => exact ⟨(x7_4), (t164), (t165), (t166), H', ⟨by have := HJ2.out; have := HK2.out; have := HJ12.out; have := HK4.out; omega⟩, ⟨RU HO_7.out⟩, ⟨IU73 HI147.out⟩, ⟨BV73 HI147.out HB.out⟩⟩
      ·rw [if_neg c8] at H; have c8b0 := decide_eq_false c8; clear c8; replace H := Option.bind_eq_some_iff.mp H; obtain ⟨⟨t148, t149, t150, t151, t152⟩, A280, H⟩ := H; (try dsimp only at H); have A28 := Aside0.mk A280; clear A280
       by_cases c29 : t148 = 0
       ·rw [if_pos c29] at H; have c29b0 : (t148 == 0) = true := beq_iff_eq.mpr c29; have c29b1 : (t148 != 0) = false := bne_eq_false_iff_eq.mpr c29; clear c29; simp only [Option.some.injEq, Prod.mk.injEq] at H; obtain ⟨rfl, rfl⟩ := H; obtain ⟨Ao30, co30, eo30⟩ := Kd.R_slice HO_7.out; subst eo30
        go_wp2_with (first | (go_at_call 72; (with_reducible refine (num_Reader_End.calls g147 t143 x148001_2 x148002_2 x148003_2 t148 t149 t150 t151 t152 w _ ?side1 ?side2 A28.out).mono ?_); (case side1 => exact IU73 HI147.out); (case side2 => exact BV73 HI147.out HB.out); rintro e w31 ⟨rfl, hi, hb, hk⟩; replace HO_7 := KR73 hk HI147 HO_7; replace HB := Aside0.mk hb; replace HI147 := Aside0.mk hi; clear hb hk hi))
        go_ret2
        exact ⟨_, ER, RU HO_7.out, BV73 HI147.out HB.out⟩
       ·rw [if_neg c29] at H; have c29b0 : (t148 == 0) = false := beq_eq_false_iff_ne.mpr c29; have c29b1 : (t148 != 0) = true := bne_iff_ne.mpr c29; simp only [Option.some.injEq, Prod.mk.injEq] at H; obtain ⟨rfl, rfl⟩ := H; obtain ⟨Ao32, co32, eo32⟩ := Kd.R_slice HO_7.out; subst eo32
        go_wp2_with (first | (go_at_call 72; (with_reducible refine (num_Reader_End.calls g147 t143 x148001_2 x148002_2 x148003_2 t148 t149 t150 t151 t152 w _ ?side1 ?side2 A28.out).mono ?_); (case side1 => exact IU73 HI147.out); (case side2 => exact BV73 HI147.out HB.out); rintro e w33 ⟨rfl, hi, hb, hk⟩; replace HO_7 := KR73 hk HI147 HO_7; replace HB := Aside0.mk hb; replace HI147 := Aside0.mk hi; clear hb hk hi))
        go_ret2
        exact ⟨_, ER, by first | exact Kd.R_nil _ _ _ _ _ | exact Kd.N_nil _ _ _ _ _ | exact Kd.V_nil _ _ _ _ _ | exact Kd.Q_nil _ _ _ _ _ | exact Kd.S_nil _ _ _ _ _, BV73 HI147.out HB.out⟩

/-! ### bits_Size: function 68 -/
def bits_Size.f (a0 : Int) (a1 : Int) : Option (Int) := if a0 < 0 then (some (-1)) else (if a0 > 65536 then (some (-1)) else (if a1 < 0 then (some (-1)) else (if a1 > 64 then (some (-1)) else (some (wrap64 (Int.tdiv (wrap64 ((wrap64 (a0 * a1)) + 7)) 8))))))
set_option maxHeartbeats 8000000 in
set_option maxRecDepth 100000 in
theorem bits_Size.calls (a0 : Int) (a1 : Int) (r : Int) (w : World) (h : bits_Size.f a0 a1 = some r) :
  Calls Tryz.prog 68 #[.int .i64 a0, .int .i64 a1] w fun e w' => e = .returned (.int .i64 r) ∧ Drawn0 w w' := by
 have H : (if a0 < 0 then (some (-1)) else (if a0 > 65536 then (some (-1)) else (if a1 < 0 then (some (-1)) else (if a1 > 64 then (some (-1)) else (some (wrap64 (Int.tdiv (wrap64 ((wrap64 (a0 * a1)) + 7)) 8))))))) = some r := h; clear h
 by_cases c3 : a0 < 0
 ·rw [if_pos c3] at H; have c3b0 := decide_eq_true c3; clear c3; obtain rfl := Option.some.inj H; go_enter Tryz.func68, Tryz.ntmps68; go_wp2
  go_ret
  exact ⟨EB, DR⟩
 ·rw [if_neg c3] at H; have c3b0 := decide_eq_false c3; clear c3
  by_cases c4 : a0 > 65536
  ·rw [if_pos c4] at H; have c4b0 : decide (65536 < a0) = true := decide_eq_true c4; clear c4; obtain rfl := Option.some.inj H; go_enter Tryz.func68, Tryz.ntmps68; go_wp2
   go_ret
   exact ⟨EB, DR⟩
  ·rw [if_neg c4] at H; have c4b0 : decide (65536 < a0) = false := decide_eq_false c4; clear c4
   by_cases c5 : a1 < 0
   ·rw [if_pos c5] at H; have c5b0 := decide_eq_true c5; clear c5; obtain rfl := Option.some.inj H; go_enter Tryz.func68, Tryz.ntmps68; go_wp2
    go_ret
    exact ⟨EB, DR⟩
   ·rw [if_neg c5] at H; have c5b0 := decide_eq_false c5; clear c5
    by_cases c6 : a1 > 64
    ·rw [if_pos c6] at H; have c6b0 : decide (64 < a1) = true := decide_eq_true c6; clear c6; obtain rfl := Option.some.inj H; go_enter Tryz.func68, Tryz.ntmps68; go_wp2
     go_ret
     exact ⟨EB, DR⟩
    ·rw [if_neg c6] at H; have c6b0 : decide (64 < a1) = false := decide_eq_false c6; clear c6; obtain rfl := Option.some.inj H; go_enter Tryz.func68, Tryz.ntmps68; go_wp2
     go_ret
     exact ⟨EB, DR⟩

/-! ### bits_fits: function 91 -/
def bits_fits.f (a0 : Int) (a1 : Int) : Option (Bool) := if a1 = 64 then (some true) else (if 0 ≤ (IntKind.u64.wrap (a1)) then (some ((shr .u64 a0 (IntKind.u64.wrap (a1))) == 0)) else (none))
set_option maxHeartbeats 8000000 in
set_option maxRecDepth 100000 in
theorem bits_fits.calls (a0 : Int) (a1 : Int) (r : Bool) (w : World) (h : bits_fits.f a0 a1 = some r) :
  Calls Tryz.prog 91 #[.int .u64 a0, .int .i64 a1] w fun e w' => e = .returned (.bool r) ∧ Drawn0 w w' := by
 have H : (if a1 = 64 then (some true) else (if 0 ≤ (IntKind.u64.wrap (a1)) then (some ((shr .u64 a0 (IntKind.u64.wrap (a1))) == 0)) else (none))) = some r := h; clear h
 by_cases c3 : a1 = 64
 ·rw [if_pos c3] at H; have c3b0 : (a1 == 64) = true := beq_iff_eq.mpr c3; have c3b1 : (a1 != 64) = false := bne_eq_false_iff_eq.mpr c3; clear c3; obtain rfl := Option.some.inj H; go_enter Tryz.func91, Tryz.ntmps91; go_wp2
  go_ret
  exact ⟨EB, DR⟩
 ·rw [if_neg c3] at H; have c3b0 : (a1 == 64) = false := beq_eq_false_iff_ne.mpr c3; have c3b1 : (a1 != 64) = true := bne_iff_ne.mpr c3
  obtain ⟨ji4, hji4⟩ : ∃ j_ : Int, (IntKind.u64.wrap (a1)) = j_ := ⟨_, rfl⟩
  replace H : (if 0 ≤ (ji4) then (some ((shr .u64 a0 (ji4)) == 0)) else (none)) = some r := by first | (rw [hji4] at H; exact H) | (simp only [hji4] at H ⊢; exact H)
  by_cases c5 : 0 ≤ (ji4)
  ·rw [if_pos c5] at H; have c5b0 := eq_true c5; have c5b1 := decide_eq_true c5; clear c5
   obtain ⟨ji6, hji6⟩ : ∃ j_ : Int, (shr .u64 a0 (ji4)) = j_ := ⟨_, rfl⟩
   replace H : (some ((ji6) == 0)) = some r := by first | (rw [hji6] at H; exact H) | (simp only [hji6] at H ⊢; exact H)
   have hji6_ : (a0 / 2 ^ min (ji4).toNat 64) = ji6 := hji6; have hji6z : (ji4) ≤ 64 → (a0 / 2 ^ (ji4).toNat) = ji6 := shr_small hji6; obtain rfl := Option.some.inj H; go_enter Tryz.func91, Tryz.ntmps91; go_wp2
   go_ret
   exact ⟨by first | rfl | (simp; done) | (simp only [← hji4, ← hji6] <;> (first | rfl | simp)) | (simp [*]; done), DR⟩
  ·rw [if_neg c5] at H; exact absurd H (by simp)

end Go.Proofs.YtehbkhddbdgbcaaGreatDoor.PChunkBack
