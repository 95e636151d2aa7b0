/- WRITTEN BY A PROGRAM of this session (wip/tool: a turned copy of the printer), out of the translation: Lean functions with the answers of the Go functions, and the proofs that the Go code comes to them. -/
import Derived.Test.YtjmhfbgpebgcmaaDoorPRunsBackx0
import Derived.Test.YtjmhfbgpebgcmaaDoorPRunsBackx1
import Derived.Test.YtjmhfbgpebgcmaaDoorPRunsBackx2
import Derived.Test.YtjmhfbgpebgcmaaDoorPRunsBackx3
namespace Go.Proofs.YtjmhfbgpebgcmaaDoor.PRunsBack
open Go.RowKit Go.Proofs.YtjmhfbgpebgcmaaDoorW.PrintWords Go.Proofs.YtjmhfbgpebgcmaaDoorW.PrintLast Go.Proofs.YtjmhfbgpebgcmaaDoorW.PrintMore
attribute [local go_sem] max2_int min2_int max_two min_two max_three min_three max_four min_four   -- for this text's walks alone
set_option linter.unusedVariables false
set_option linter.unusedSimpArgs false

/-! ### runs_Get: function 41 -/
mutual
def runs_Get.j0 : Nat → List Int → Int → Bool → Option (List Int × Int)
  | 0, _, _, _ => none
  | k + 1, x0, x1, x20 => if x20 = true then (some (([] : List Int), 1)) else ((num_NewReader.f x0).bind fun bt123 => (runs_Get.l0 k x1 ([] : List Int) bt123.1 bt123.2.1 bt123.2.2.1 bt123.2.2.2))
def runs_Get.l0 : Nat → Int → List Int → List Int → Int → Int → Int → Option (List Int × Int)
  | 0, _, _, _, _, _, _ => none
  | k + 1, x1, x7, x128000, x128001, x128002, x128003 => if (x7.length : Int) < x1 then ((num_Reader_Var.f k x128000 x128001 x128002 x128003).bind fun bt133 => ((num_Reader_Var.f k x128000 bt133.2.1 bt133.2.2.1 bt133.2.2.2).bind fun bt137 => ((num_Zag.f bt137.1).bind fun t141 => ((num_Reader_Err.f x128000 bt137.2.1 bt137.2.2.1 bt137.2.2.2).bind fun bt142 => (if bt142.1 = 0 then (if bt133.1 ≥ (IntKind.u64.wrap (wrap64 (x1 - (x7.length : Int)))) then (some (([] : List Int), 5)) else (if (x7.length : Int) > 0 then (if 0 ≤ (wrap64 ((x7.length : Int) - 1)) then (if (wrap64 ((x7.length : Int) - 1)) < (x7.length : Int) then (if (rd x7 (wrap64 ((x7.length : Int) - 1))) = t141 then (some (([] : List Int), 4)) else (runs_Get.j2 k x1 x7 bt133.1 t141 x128000 bt142.2.2.1 bt142.2.2.2.1 bt142.2.2.2.2)) else (none)) else (none)) else (runs_Get.j2 k x1 x7 bt133.1 t141 x128000 bt142.2.2.1 bt142.2.2.2.1 bt142.2.2.2.2))) else (some (([] : List Int), bt142.1))))))) else ((num_Reader_End.f x128000 x128001 x128002 x128003).bind fun bt128 => (if bt128.1 = 0 then (some (x7, 0)) else (some (([] : List Int), bt128.1))))
def runs_Get.j2 : Nat → Int → List Int → Int → Int → List Int → Int → Int → Int → Option (List Int × Int)
  | 0, _, _, _, _, _, _, _, _ => none
  | k + 1, x1, x7, x8, x9, x128000, x128001, x128002, x128003 => runs_Get.l1 k x1 x7 x9 (IntKind.u64.wrap (x8 + 1)) 0 x128000 x128001 x128002 x128003
def runs_Get.l1 : Nat → Int → List Int → Int → Int → Int → List Int → Int → Int → Int → Option (List Int × Int)
  | 0, _, _, _, _, _, _, _, _, _ => none
  | k + 1, x1, x7, x9, x63, x64, x128000, x128001, x128002, x128003 => if x64 < x63 then (if x7.length < 17592186044416 then (runs_Get.l1 k x1 (x7 ++ [x9]) x9 x63 (IntKind.u64.wrap (x64 + 1)) x128000 x128001 x128002 x128003) else (none)) else (runs_Get.l0 k x1 x7 x128000 x128001 x128002 x128003)
end
def runs_Get.f (k : Nat) (l0 : List Int) (a1 : Int) : Option (List Int × Int) := if a1 < 0 then (runs_Get.j0 k l0 a1 true) else (runs_Get.j0 k l0 a1 (decide (a1 > 65536)))
theorem runs_Get.mono_l : ∀ k, (∀ y0 y1 y2, LeO (runs_Get.j0 k y0 y1 y2) (runs_Get.j0 (k + 1) y0 y1 y2)) ∧ (∀ y0 y1 y2 y3 y4 y5, LeO (runs_Get.l0 k y0 y1 y2 y3 y4 y5) (runs_Get.l0 (k + 1) y0 y1 y2 y3 y4 y5)) ∧ (∀ y0 y1 y2 y3 y4 y5 y6 y7, LeO (runs_Get.j2 k y0 y1 y2 y3 y4 y5 y6 y7) (runs_Get.j2 (k + 1) y0 y1 y2 y3 y4 y5 y6 y7)) ∧ (∀ y0 y1 y2 y3 y4 y5 y6 y7 y8, LeO (runs_Get.l1 k y0 y1 y2 y3 y4 y5 y6 y7 y8) (runs_Get.l1 (k + 1) y0 y1 y2 y3 y4 y5 y6 y7 y8))
  | 0 => ⟨fun _ _ _ r h => by simp [runs_Get.j0] at h, fun _ _ _ _ _ _ r h => by simp [runs_Get.l0] at h, fun _ _ _ _ _ _ _ _ r h => by simp [runs_Get.j2] at h, fun _ _ _ _ _ _ _ _ _ r h => by simp [runs_Get.l1] at h⟩
  | k + 1 => by
    obtain ⟨ih0, ih1, ih2, ih3⟩ := runs_Get.mono_l k
    refine ⟨?_, ?_, ?_, ?_⟩
    · intro y0 y1 y2
      unfold runs_Get.j0
      repeat' first
      | (with_reducible exact ih0 _ _ _)
      | (with_reducible exact ih1 _ _ _ _ _ _)
      | (with_reducible exact ih2 _ _ _ _ _ _ _ _)
      | (with_reducible exact ih3 _ _ _ _ _ _ _ _ _)
      | (with_reducible exact num_Reader_Var.mono _ _ _ _ _)
      | (with_reducible exact LeO.refl _)
      | (with_reducible exact LeO.none _)
      | (with_reducible refine LeO.ite ?_ ?_)
      | (with_reducible refine LeO.bind ?_ (fun _ => ?_))
      | exact ih0 _ _ _
      | exact ih1 _ _ _ _ _ _
      | exact ih2 _ _ _ _ _ _ _ _
      | exact ih3 _ _ _ _ _ _ _ _ _
      | exact num_Reader_Var.mono _ _ _ _ _
      | exact LeO.none _
      | refine LeO.ite ?_ ?_
      | refine LeO.bind ?_ (fun _ => ?_)
    · intro y0 y1 y2 y3 y4 y5
      unfold runs_Get.l0
      repeat' first
      | (with_reducible exact ih0 _ _ _)
      | (with_reducible exact ih1 _ _ _ _ _ _)
      | (with_reducible exact ih2 _ _ _ _ _ _ _ _)
      | (with_reducible exact ih3 _ _ _ _ _ _ _ _ _)
      | (with_reducible exact num_Reader_Var.mono _ _ _ _ _)
      | (with_reducible exact LeO.refl _)
      | (with_reducible exact LeO.none _)
      | (with_reducible refine LeO.ite ?_ ?_)
      | (with_reducible refine LeO.bind ?_ (fun _ => ?_))
      | exact ih0 _ _ _
      | exact ih1 _ _ _ _ _ _
      | exact ih2 _ _ _ _ _ _ _ _
      | exact ih3 _ _ _ _ _ _ _ _ _
      | exact num_Reader_Var.mono _ _ _ _ _
      | exact LeO.none _
      | refine LeO.ite ?_ ?_
      | refine LeO.bind ?_ (fun _ => ?_)
    · intro y0 y1 y2 y3 y4 y5 y6 y7
      unfold runs_Get.j2
      repeat' first
      | (with_reducible exact ih0 _ _ _)
      | (with_reducible exact ih1 _ _ _ _ _ _)
      | (with_reducible exact ih2 _ _ _ _ _ _ _ _)
      | (with_reducible exact ih3 _ _ _ _ _ _ _ _ _)
      | (with_reducible exact num_Reader_Var.mono _ _ _ _ _)
      | (with_reducible exact LeO.refl _)
      | (with_reducible exact LeO.none _)
      | (with_reducible refine LeO.ite ?_ ?_)
      | (with_reducible refine LeO.bind ?_ (fun _ => ?_))
      | exact ih0 _ _ _
      | exact ih1 _ _ _ _ _ _
      | exact ih2 _ _ _ _ _ _ _ _
      | exact ih3 _ _ _ _ _ _ _ _ _
      | exact num_Reader_Var.mono _ _ _ _ _
      | exact LeO.none _
      | refine LeO.ite ?_ ?_
      | refine LeO.bind ?_ (fun _ => ?_)
    · intro y0 y1 y2 y3 y4 y5 y6 y7 y8
      unfold runs_Get.l1
      repeat' first
      | (with_reducible exact ih0 _ _ _)
      | (with_reducible exact ih1 _ _ _ _ _ _)
      | (with_reducible exact ih2 _ _ _ _ _ _ _ _)
      | (with_reducible exact ih3 _ _ _ _ _ _ _ _ _)
      | (with_reducible exact num_Reader_Var.mono _ _ _ _ _)
      | (with_reducible exact LeO.refl _)
      | (with_reducible exact LeO.none _)
      | (with_reducible refine LeO.ite ?_ ?_)
      | (with_reducible refine LeO.bind ?_ (fun _ => ?_))
      | exact ih0 _ _ _
      | exact ih1 _ _ _ _ _ _
      | exact ih2 _ _ _ _ _ _ _ _
      | exact ih3 _ _ _ _ _ _ _ _ _
      | exact num_Reader_Var.mono _ _ _ _ _
      | exact LeO.none _
      | refine LeO.ite ?_ ?_
      | refine LeO.bind ?_ (fun _ => ?_)
theorem runs_Get.mono : ∀ a0 a1 k, LeO (runs_Get.f k a0 a1) (runs_Get.f (k + 1) a0 a1) := by
  intro a0 a1 k
  obtain ⟨ih0, ih1, ih2, ih3⟩ := runs_Get.mono_l k
  unfold runs_Get.f
  repeat' first
      | (with_reducible exact ih0 _ _ _)
      | (with_reducible exact ih1 _ _ _ _ _ _)
      | (with_reducible exact ih2 _ _ _ _ _ _ _ _)
      | (with_reducible exact ih3 _ _ _ _ _ _ _ _ _)
      | (with_reducible exact num_Reader_Var.mono _ _ _ _ _)
      | (with_reducible exact LeO.refl _)
      | (with_reducible exact LeO.none _)
      | (with_reducible refine LeO.ite ?_ ?_)
      | (with_reducible refine LeO.bind ?_ (fun _ => ?_))
      | exact ih0 _ _ _
      | exact ih1 _ _ _ _ _ _
      | exact ih2 _ _ _ _ _ _ _ _
      | exact ih3 _ _ _ _ _ _ _ _ _
      | exact num_Reader_Var.mono _ _ _ _ _
      | exact LeO.none _
      | refine LeO.ite ?_ ?_
      | refine LeO.bind ?_ (fun _ => ?_)
set_option maxHeartbeats 8000000 in
set_option maxRecDepth 100000 in
theorem runs_Get.calls (k : Nat) (A0 : Option Addr) (c0 : Nat) (l0 : List Int) (a1 : Int) (r1 : List Int) (r2 : Int) (w : World) (hr0 : Kd.C (Kd.int .u8) w A0 l0.length l0) (hc0 : l0.length ≤ c0) (hG : HG w) (h : runs_Get.f k l0 a1 = some (r1, r2)) :
    Calls Tryd.prog 41 #[.slice A0 l0.length c0, .int .i64 a1] w fun e w' => ∃ v0_ : Value, e = .returned (.tuple #[v0_, .int .i64 r2]) ∧ Kd.R (Kd.int .i64) 2 w' w.heap.size (fun _ => True) v0_ r1 ∧ Below w.heap.size w w' := by
  have HR0 := Aside0.mk hr0
  have HC0 := Aside0.mk hc0
  clear hr0 hc0
  have HB := Aside0.mk (Below.refl w.heap.size w)
  have H : (if a1 < 0 then (runs_Get.j0 k l0 a1 true) else (runs_Get.j0 k l0 a1 (decide (a1 > 65536)))) = some (r1, r2) := h
  clear h
  have HC3 := Aside0.mk H
  clear H
  go_enter Tryd.func41, Tryd.ntmps41
  go_upto_region 1 with (fail)
  go_cut [20] (fun v20 wc => ∃ (kq : Nat) (x20_2 : Bool), v20 = .bool x20_2 ∧ Aside0 (runs_Get.j0 kq l0 a1 x20_2 = some (r1, r2)) ∧ Aside0 (kq ≤ k) ∧ Aside0 (Below w.heap.size w wc))
  case first =>
    have H := HC3.out
    clear HC3
    by_cases c4 : a1 < 0
    · rw [if_pos c4] at H
      have c4b0 : decide (a1 < 0) = true := decide_eq_true c4
      clear c4
      (first | rw [c4b0] | (simp only [i64_w, i32_w]; rw [c4b0]) | skip)
      have H' := Aside0.mk H
      clear H
      go_wp2
      go_meet
      case rel => exact ⟨_, (true), (by first | rfl | (simp; done) | (simp [*]; done)), H', ⟨by first | omega | exact Nat.le_refl _⟩, ⟨by repeat (first | (with_reducible first | exact HB.out | apply below_alloc | apply pw_below_drewN | apply below_drew1) | exact HB.out)⟩⟩
    · rw [if_neg c4] at H
      have c4b0 : decide (a1 < 0) = false := decide_eq_false c4
      clear c4
      (first | rw [c4b0] | (simp only [i64_w, i32_w]; rw [c4b0]) | skip)
      have H' := Aside0.mk H
      clear H
      go_wp2
      go_meet
      case rel => exact ⟨_, (decide (a1 > 65536)), (by first | rfl | (simp; done) | (simp [*]; done)), H', ⟨by first | omega | exact Nat.le_refl _⟩, ⟨by repeat (first | (with_reducible first | exact HB.out | apply below_alloc | apply pw_below_drewN | apply below_drew1) | exact HB.out)⟩⟩
  case rest =>
    clear HC3
    try clear p2
    try clear c4
    try clear c4b0
    obtain ⟨kq, x20_2, rfl, HA, HJ2, HB⟩ := hcut
    cases kq with
    | zero => exact absurd HA.out (by simp [runs_Get.j0])
    | succ kj2 =>
      have H := HA.out
      clear HA
      simp only [runs_Get.j0] at H
      by_cases c5 : x20_2 = true
      · subst c5
        have H1 : (some (([] : List Int), 1)) = some (r1, r2) := by rw [if_pos rfl] at H; exact H
        clear H
        have H := H1
        clear H1
        simp only [Option.some.injEq, Prod.mk.injEq] at H
        obtain ⟨rfl, rfl⟩ := H
        go_wp2
        go_ret2
        exact ⟨_, by first | rfl | (simp [errW_none, errW_some] <;> rfl) | (simp [*, errW_none, errW_some] <;> rfl), by first | exact Kd.R_nil _ _ _ _ _ | exact Kd.N_nil _ _ _ _ _ | exact Kd.V_nil _ _ _ _ _ | exact Kd.Q_nil _ _ _ _ _ | exact Kd.S_nil _ _ _ _ _, by repeat (first | (with_reducible first | exact HB.out | apply below_alloc | apply pw_below_drewN | apply below_drew1) | exact HB.out)⟩
      · replace c5 := Bool.eq_false_iff.mpr c5
        subst c5
        have H1 : ((num_NewReader.f l0).bind fun bt123 => (runs_Get.l0 kj2 a1 ([] : List Int) bt123.1 bt123.2.1 bt123.2.2.1 bt123.2.2.2)) = some (r1, r2) := by rw [if_neg (show ¬ (false = true) by decide)] at H; exact H
        clear H
        have H := H1
        clear H1
        replace H := Option.bind_eq_some_iff.mp H
        obtain ⟨⟨t123, t124, t125, t126⟩, A60, H⟩ := H
        replace H : (runs_Get.l0 kj2 a1 ([] : List Int) t123 t124 t125 t126) = some (r1, r2) := H
        have A6 := Aside0.mk A60
        clear A60
        have H' := Aside0.mk H
        clear H
        go_wp2_with (first | ((with_reducible refine gate_callee (f := 13) rfl ?_); refine goesL_ (some 22) rfl rfl Tryd.func13 (by kernel_rfl) rfl #[.slice A0 l0.length c0] rfl (by (try simp only [List.map_toArray, List.map_cons, List.map_nil]); first | done | rfl | (simp only [List.length_drop, List.length_take]; rfl)) ?_; (with_reducible refine (num_NewReader.calls _ _ l0 t123 t124 t125 t126 w _ ?side1 ?side2 ?side3 hG A6.out).mono ?_); (case side1 => repeat (first | (with_reducible first | exact HB.out | apply below_alloc | apply pw_below_drewN | apply below_drew1) | exact HB.out)); (case side2 => repeat (first | exact (Kd.C_below HR0.out HB.out) | (with_reducible refine Kd.C_alloc ?_ _) | (with_reducible refine Kd.C_drewN ?_ _) | (with_reducible refine Kd.C_drew ?_))); (case side3 => exact HC0.out); rintro e w7 ⟨g127, rfl, hi, hb, hb2⟩; refine ⟨_, rfl, ?_⟩; have n0_ := Aside0.mk (hb); have n1_ := Aside0.mk (hi); clear HB; have HB := n0_; have HI127 := n1_; clear n0_ n1_; (try clear hb); (try clear hb2); (try clear hk); (try clear hi)))
        go_loopg [7] kj2 (fun kq v7 w' => ∃ (x7_2 : List Int) (x128001_2 : Int) (x128002_2 : Int) (x128003_2 : Int), Aside0 (runs_Get.l0 kq a1 x7_2 t123 x128001_2 x128002_2 x128003_2 = some (r1, r2)) ∧ Aside0 (kq ≤ kj2) ∧ Aside0 (Kd.R (Kd.int .i64) 2 w' w.heap.size (fun _ => True) v7 x7_2) ∧ Aside0 (IsS71 w w' g127 t123 x128001_2 x128002_2 x128003_2) ∧ Aside0 (Below w.heap.size w w'))
        case atStart => exact ⟨(([] : List Int)), (t124), (t125), (t126), H', ⟨Nat.le_refl _⟩, ⟨by first | exact Kd.R_nil _ _ _ _ _ | exact Kd.N_nil _ _ _ _ _ | exact Kd.V_nil _ _ _ _ _ | exact Kd.Q_nil _ _ _ _ _ | exact Kd.S_nil _ _ _ _ _⟩, ⟨by repeat (first | (with_reducible first | exact HI127.out | apply IsS71.alloc | apply IsS71.drewN | apply IsS71.drew | apply IsS71.set_1 | apply IsS71.set_2 | apply IsS71.set_3) | exact HI127.out)⟩, ⟨by repeat (first | (with_reducible first | exact HB.out | apply below_alloc | apply pw_below_drewN | apply below_drew1 | refine below_set ?_ (IsS71.ge HI127.out)) | exact HB.out)⟩⟩
        case round =>
          clear H'
          try clear c1
          try clear p2
          try clear c4
          try clear c4b0
          try clear c5
          try clear p2
          obtain ⟨x7_2, x128001_2, x128002_2, x128003_2, HA, HK2, HO_7, HI127, HB⟩ := hrel
          cases gk with
          | zero => exact absurd HA.out (by simp [runs_Get.l0])
          | succ k2 =>
            have H := HA.out
            clear HA
            simp only [runs_Get.l0] at H
            by_cases c8 : (x7_2.length : Int) < a1
            · rw [if_pos c8] at H
              have c8b0 : decide ((x7_2.length : Int) < a1) = true := decide_eq_true c8
              clear c8
              replace H := Option.bind_eq_some_iff.mp H
              obtain ⟨⟨t133, t134, t135, t136⟩, A90, H⟩ := H
              replace H : ((num_Reader_Var.f k2 t123 t134 t135 t136).bind fun bt137 => ((num_Zag.f bt137.1).bind fun t141 => ((num_Reader_Err.f t123 bt137.2.1 bt137.2.2.1 bt137.2.2.2).bind fun bt142 => (if bt142.1 = 0 then (if t133 ≥ (IntKind.u64.wrap (wrap64 (a1 - (x7_2.length : Int)))) then (some (([] : List Int), 5)) else (if (x7_2.length : Int) > 0 then (if 0 ≤ (wrap64 ((x7_2.length : Int) - 1)) then (if (wrap64 ((x7_2.length : Int) - 1)) < (x7_2.length : Int) then (if (rd x7_2 (wrap64 ((x7_2.length : Int) - 1))) = t141 then (some (([] : List Int), 4)) else (runs_Get.j2 k2 a1 x7_2 t133 t141 t123 bt142.2.2.1 bt142.2.2.2.1 bt142.2.2.2.2)) else (none)) else (none)) else (runs_Get.j2 k2 a1 x7_2 t133 t141 t123 bt142.2.2.1 bt142.2.2.2.1 bt142.2.2.2.2))) else (some (([] : List Int), bt142.1)))))) = some (r1, r2) := H
              have A9 := Aside0.mk A90
              clear A90
              replace H := Option.bind_eq_some_iff.mp H
              obtain ⟨⟨t137, t138, t139, t140⟩, A100, H⟩ := H
              replace H : ((num_Zag.f t137).bind fun t141 => ((num_Reader_Err.f t123 t138 t139 t140).bind fun bt142 => (if bt142.1 = 0 then (if t133 ≥ (IntKind.u64.wrap (wrap64 (a1 - (x7_2.length : Int)))) then (some (([] : List Int), 5)) else (if (x7_2.length : Int) > 0 then (if 0 ≤ (wrap64 ((x7_2.length : Int) - 1)) then (if (wrap64 ((x7_2.length : Int) - 1)) < (x7_2.length : Int) then (if (rd x7_2 (wrap64 ((x7_2.length : Int) - 1))) = t141 then (some (([] : List Int), 4)) else (runs_Get.j2 k2 a1 x7_2 t133 t141 t123 bt142.2.2.1 bt142.2.2.2.1 bt142.2.2.2.2)) else (none)) else (none)) else (runs_Get.j2 k2 a1 x7_2 t133 t141 t123 bt142.2.2.1 bt142.2.2.2.1 bt142.2.2.2.2))) else (some (([] : List Int), bt142.1))))) = some (r1, r2) := H
              have A10 := Aside0.mk A100
              clear A100
              replace H := Option.bind_eq_some_iff.mp H
              obtain ⟨t141, A110, H⟩ := H
              replace H : ((num_Reader_Err.f t123 t138 t139 t140).bind fun bt142 => (if bt142.1 = 0 then (if t133 ≥ (IntKind.u64.wrap (wrap64 (a1 - (x7_2.length : Int)))) then (some (([] : List Int), 5)) else (if (x7_2.length : Int) > 0 then (if 0 ≤ (wrap64 ((x7_2.length : Int) - 1)) then (if (wrap64 ((x7_2.length : Int) - 1)) < (x7_2.length : Int) then (if (rd x7_2 (wrap64 ((x7_2.length : Int) - 1))) = t141 then (some (([] : List Int), 4)) else (runs_Get.j2 k2 a1 x7_2 t133 t141 t123 bt142.2.2.1 bt142.2.2.2.1 bt142.2.2.2.2)) else (none)) else (none)) else (runs_Get.j2 k2 a1 x7_2 t133 t141 t123 bt142.2.2.1 bt142.2.2.2.1 bt142.2.2.2.2))) else (some (([] : List Int), bt142.1)))) = some (r1, r2) := H
              have A11 := Aside0.mk A110
              clear A110
              replace H := Option.bind_eq_some_iff.mp H
              obtain ⟨⟨t142, t143, t144, t145, t146⟩, A120, H⟩ := H
              replace H : (if t142 = 0 then (if t133 ≥ (IntKind.u64.wrap (wrap64 (a1 - (x7_2.length : Int)))) then (some (([] : List Int), 5)) else (if (x7_2.length : Int) > 0 then (if 0 ≤ (wrap64 ((x7_2.length : Int) - 1)) then (if (wrap64 ((x7_2.length : Int) - 1)) < (x7_2.length : Int) then (if (rd x7_2 (wrap64 ((x7_2.length : Int) - 1))) = t141 then (some (([] : List Int), 4)) else (runs_Get.j2 k2 a1 x7_2 t133 t141 t123 t144 t145 t146)) else (none)) else (none)) else (runs_Get.j2 k2 a1 x7_2 t133 t141 t123 t144 t145 t146))) else (some (([] : List Int), t142))) = some (r1, r2) := H
              have A12 := Aside0.mk A120
              clear A120
              have HC13 := Aside0.mk H
              clear H
              obtain ⟨Ao14, co14, eo14⟩ := Kd.R_slice HO_7.out
              subst eo14
              go_upto_block 2 with (first | ((with_reducible refine gate_callee (f := 15) rfl ?_); refine goesL_ (some 28) rfl rfl Tryd.func15 (by kernel_rfl) rfl #[.pointer (some ⟨g127, 0, none⟩)] rfl (by (try simp only [List.map_toArray, List.map_cons, List.map_nil]); first | done | rfl | (simp only [List.length_drop, List.length_take]; rfl)) ?_; (with_reducible refine (num_Reader_Var.calls k2 g127 t123 x128001_2 x128002_2 x128003_2 t133 t134 t135 t136 w _ ?side1 ?side2 A9.out).mono ?_); (case side1 => repeat (first | (with_reducible first | exact HI127.out | apply IsS71.alloc | apply IsS71.drewN | apply IsS71.drew | apply IsS71.set_1 | apply IsS71.set_2 | apply IsS71.set_3) | exact HI127.out)); (case side2 => repeat (first | (with_reducible first | exact HB.out | apply below_alloc | apply pw_below_drewN | apply below_drew1 | refine below_set ?_ (IsS71.ge HI127.out)) | exact HB.out)); rintro e w15 ⟨rfl, hi, hb, hk⟩; refine ⟨_, rfl, ?_⟩; have n0_ := Aside0.mk (Kd.R_mono (Kd.R_keep (IsS71.apart (show IsS71 w _ g127 t123 x128001_2 x128002_2 x128003_2 from by repeat (first | (with_reducible first | exact HI127.out | apply IsS71.alloc | apply IsS71.drewN | apply IsS71.drew | apply IsS71.set_1 | apply IsS71.set_2 | apply IsS71.set_3) | exact HI127.out)) (by (with_reducible repeat (first | apply Kd.R_alloc | apply Kd.R_drewN | apply Kd.R_drew)); exact HO_7.out) (by decide)) hk (fun _ h => h.2)) (fun _ h => h.1)); have n1_ := Aside0.mk (hb); have n2_ := Aside0.mk (hi); clear HO_7; clear HB; clear HI127; have HO_7 := n0_; have HB := n1_; have HI127 := n2_; clear n0_ n1_ n2_; (try clear hb); (try clear hb2); (try clear hk); (try clear hi)) | ((with_reducible refine gate_callee (f := 15) rfl ?_); refine goesL_ (some 30) rfl rfl Tryd.func15 (by kernel_rfl) rfl #[.pointer (some ⟨g127, 0, none⟩)] rfl (by (try simp only [List.map_toArray, List.map_cons, List.map_nil]); first | done | rfl | (simp only [List.length_drop, List.length_take]; rfl)) ?_; (with_reducible refine (num_Reader_Var.calls k2 g127 t123 t134 t135 t136 t137 t138 t139 t140 w _ ?side1 ?side2 A10.out).mono ?_); (case side1 => repeat (first | (with_reducible first | exact HI127.out | apply IsS71.alloc | apply IsS71.drewN | apply IsS71.drew | apply IsS71.set_1 | apply IsS71.set_2 | apply IsS71.set_3) | exact HI127.out)); (case side2 => repeat (first | (with_reducible first | exact HB.out | apply below_alloc | apply pw_below_drewN | apply below_drew1 | refine below_set ?_ (IsS71.ge HI127.out)) | exact HB.out)); rintro e w16 ⟨rfl, hi, hb, hk⟩; refine ⟨_, rfl, ?_⟩; have n0_ := Aside0.mk (Kd.R_mono (Kd.R_keep (IsS71.apart (show IsS71 w _ g127 t123 t134 t135 t136 from by repeat (first | (with_reducible first | exact HI127.out | apply IsS71.alloc | apply IsS71.drewN | apply IsS71.drew | apply IsS71.set_1 | apply IsS71.set_2 | apply IsS71.set_3) | exact HI127.out)) (by (with_reducible repeat (first | apply Kd.R_alloc | apply Kd.R_drewN | apply Kd.R_drew)); exact HO_7.out) (by decide)) hk (fun _ h => h.2)) (fun _ h => h.1)); have n1_ := Aside0.mk (hb); have n2_ := Aside0.mk (hi); clear HO_7; clear HB; clear HI127; have HO_7 := n0_; have HB := n1_; have HI127 := n2_; clear n0_ n1_ n2_; (try clear hb); (try clear hb2); (try clear hk); (try clear hi)) | ((with_reducible refine gate_callee (f := 26) rfl ?_); refine goesL_ (some 31) rfl rfl Tryd.func26 (by kernel_rfl) rfl #[.int .u64 t137] rfl (by (try simp only [List.map_toArray, List.map_cons, List.map_nil]); first | done | rfl | (simp only [List.length_drop, List.length_take]; rfl)) ?_; (with_reducible refine (num_Zag.calls t137 t141 _ A11.out).mono ?_); rintro e w' ⟨rfl, ⟨nd, rfl⟩⟩; refine ⟨_, rfl, ?_⟩) | ((with_reducible refine gate_callee (f := 16) rfl ?_); refine goesL_ (some 34) rfl rfl Tryd.func16 (by kernel_rfl) rfl #[.pointer (some ⟨g127, 0, none⟩)] rfl (by (try simp only [List.map_toArray, List.map_cons, List.map_nil]); first | done | rfl | (simp only [List.length_drop, List.length_take]; rfl)) ?_; (with_reducible refine (num_Reader_Err.calls g127 t123 t138 t139 t140 t142 t143 t144 t145 t146 w _ ?side1 ?side2 A12.out).mono ?_); (case side1 => repeat (first | (with_reducible first | exact HI127.out | apply IsS71.alloc | apply IsS71.drewN | apply IsS71.drew | apply IsS71.set_1 | apply IsS71.set_2 | apply IsS71.set_3) | exact HI127.out)); (case side2 => repeat (first | (with_reducible first | exact HB.out | apply below_alloc | apply pw_below_drewN | apply below_drew1 | refine below_set ?_ (IsS71.ge HI127.out)) | exact HB.out)); rintro e w17 ⟨rfl, hi, hb, hk⟩; refine ⟨_, rfl, ?_⟩; have n0_ := Aside0.mk (Kd.R_mono (Kd.R_keep (IsS71.apart (show IsS71 w _ g127 t123 t138 t139 t140 from by repeat (first | (with_reducible first | exact HI127.out | apply IsS71.alloc | apply IsS71.drewN | apply IsS71.drew | apply IsS71.set_1 | apply IsS71.set_2 | apply IsS71.set_3) | exact HI127.out)) (by (with_reducible repeat (first | apply Kd.R_alloc | apply Kd.R_drewN | apply Kd.R_drew)); exact HO_7.out) (by decide)) hk (fun _ h => h.2)) (fun _ h => h.1)); have n1_ := Aside0.mk (hb); have n2_ := Aside0.mk (hi); clear HO_7; clear HB; clear HI127; have HO_7 := n0_; have HB := n1_; have HI127 := n2_; clear n0_ n1_ n2_; (try clear hb); (try clear hb2); (try clear hk); (try clear hi)))
              (try simp only [Act.put, List.setIfInBounds_toArray, List.set_cons_zero, List.set_cons_succ])
              go_cut [] (fun wc => ∃ (kq : Nat), Aside0 (runs_Get.j2 kq a1 x7_2 t133 t141 t123 t144 t145 t146 = some (r1, r2)) ∧ Aside0 (kq ≤ k2) ∧ Aside0 (Kd.R (Kd.int .i64) 2 wc w.heap.size (fun _ => True) (.slice Ao14 x7_2.length co14) x7_2) ∧ Aside0 (IsS71 w wc g127 t123 t144 t145 t146) ∧ Aside0 (Below w.heap.size w wc))
              case first =>
                have H := HC13.out
                clear HC13
                by_cases c18 : t142 = 0
                · rw [if_pos c18] at H
                  have c18b0 : (t142 == 0) = true := beq_iff_eq.mpr c18
                  have c18b1 : (t142 != 0) = false := bne_eq_false_iff_eq.mpr c18
                  clear c18
                  (first | rw [c18b0] | (simp only [i64_w, i32_w]; rw [c18b0]) | skip)
                  by_cases c19 : t133 ≥ (IntKind.u64.wrap (wrap64 (a1 - (x7_2.length : Int))))
                  · rw [if_pos c19] at H
                    have c19b0 : decide ((IntKind.u64.wrap (wrap64 (a1 - (x7_2.length : Int)))) ≤ t133) = true := decide_eq_true c19
                    clear c19
                    simp only [Option.some.injEq, Prod.mk.injEq] at H
                    obtain ⟨rfl, rfl⟩ := H
                    go_wp2
                    go_ret2
                    exact ⟨_, by first | rfl | (simp [errW_none, errW_some] <;> rfl) | (simp [*, errW_none, errW_some] <;> rfl), by first | exact Kd.R_nil _ _ _ _ _ | exact Kd.N_nil _ _ _ _ _ | exact Kd.V_nil _ _ _ _ _ | exact Kd.Q_nil _ _ _ _ _ | exact Kd.S_nil _ _ _ _ _, by repeat (first | (with_reducible first | exact HB.out | apply below_alloc | apply pw_below_drewN | apply below_drew1 | refine below_set ?_ (IsS71.ge HI127.out)) | exact HB.out)⟩
                  · rw [if_neg c19] at H
                    have c19b0 : decide ((IntKind.u64.wrap (wrap64 (a1 - (x7_2.length : Int)))) ≤ t133) = false := decide_eq_false c19
                    clear c19
                    by_cases c20 : (x7_2.length : Int) > 0
                    · rw [if_pos c20] at H
                      have c20b0 : decide (0 < (x7_2.length : Int)) = true := decide_eq_true c20
                      have c20b1 : decide (0 < x7_2.length) = true := decide_eq_true (by omega)
                      clear c20
                      obtain ⟨ji21, hji21⟩ : ∃ j_ : Int, (wrap64 ((x7_2.length : Int) - 1)) = j_ := ⟨_, rfl⟩
                      replace H : (if 0 ≤ (ji21) then (if (ji21) < (x7_2.length : Int) then (if (rd x7_2 (ji21)) = t141 then (some (([] : List Int), 4)) else (runs_Get.j2 k2 a1 x7_2 t133 t141 t123 t144 t145 t146)) else (none)) else (none)) = some (r1, r2) := by first | (rw [hji21] at H; exact H) | (simp only [hji21] at H ⊢; exact H)
                      have hji21w : (IntKind.i64.wrap ((x7_2.length : Int) - 1)) = ji21 := (i64_w _).trans hji21
                      by_cases c22 : 0 ≤ (ji21)
                      · rw [if_pos c22] at H
                        have c22b0 : decide (0 ≤ (ji21)) = true := decide_eq_true c22
                        clear c22
                        by_cases c23 : (ji21) < (x7_2.length : Int)
                        · rw [if_pos c23] at H
                          have c23b0 : decide ((ji21) < (x7_2.length : Int)) = true := decide_eq_true c23
                          clear c23
                          by_cases c24 : (rd x7_2 (ji21)) = t141
                          · rw [if_pos c24] at H
                            have c24b0 : ((rd x7_2 (ji21)) == t141) = true := beq_iff_eq.mpr c24
                            have c24b1 : ((rd x7_2 (ji21)) != t141) = false := bne_eq_false_iff_eq.mpr c24
                            clear c24
                            simp only [Option.some.injEq, Prod.mk.injEq] at H
                            obtain ⟨rfl, rfl⟩ := H
                            have p147 : 0 ≤ ((ji21) : Int) := of_decide_eq_true (by first | (with_reducible assumption) | assumption)
                            have q147 : (ji21) < (x7_2.length : Int) := of_decide_eq_true (by first | (with_reducible assumption) | assumption)
                            obtain ⟨ad147, e147, hx147_0⟩ := Kd.at_int (Kd.R_reads' HO_7.out).2.2 (ji21) p147 q147
                            cases e147
                            replace p147 := eq_true p147
                            replace q147 := eq_true q147
                            go_wp2
                            go_ret2
                            exact ⟨_, by first | rfl | (simp [errW_none, errW_some] <;> rfl) | (simp only [← hji21]; first | rfl | (simp [errW_none, errW_some] <;> rfl)) | (simp [*, errW_none, errW_some] <;> rfl), by first | exact Kd.R_nil _ _ _ _ _ | exact Kd.N_nil _ _ _ _ _ | exact Kd.V_nil _ _ _ _ _ | exact Kd.Q_nil _ _ _ _ _ | exact Kd.S_nil _ _ _ _ _, by repeat (first | (with_reducible first | exact HB.out | apply below_alloc | apply pw_below_drewN | apply below_drew1 | refine below_set ?_ (IsS71.ge HI127.out)) | exact HB.out)⟩
                          · rw [if_neg c24] at H
                            have c24b0 : ((rd x7_2 (ji21)) == t141) = false := beq_eq_false_iff_ne.mpr c24
                            have c24b1 : ((rd x7_2 (ji21)) != t141) = true := bne_iff_ne.mpr c24
                            have H' := Aside0.mk H
                            clear H
                            have p147 : 0 ≤ ((ji21) : Int) := of_decide_eq_true (by first | (with_reducible assumption) | assumption)
                            have q147 : (ji21) < (x7_2.length : Int) := of_decide_eq_true (by first | (with_reducible assumption) | assumption)
                            obtain ⟨ad147, e147, hx147_0⟩ := Kd.at_int (Kd.R_reads' HO_7.out).2.2 (ji21) p147 q147
                            cases e147
                            replace p147 := eq_true p147
                            replace q147 := eq_true q147
                            go_wp2
                            go_meet
                            case rel => exact ⟨_, H', ⟨by have := HJ2.out; have := HK2.out; first | omega | exact Nat.le_refl _⟩, ⟨by (with_reducible repeat (first | apply Kd.R_alloc | apply Kd.R_drewN | apply Kd.R_drew)); exact HO_7.out⟩, ⟨by repeat (first | (with_reducible first | exact HI127.out | apply IsS71.alloc | apply IsS71.drewN | apply IsS71.drew | apply IsS71.set_1 | apply IsS71.set_2 | apply IsS71.set_3) | exact HI127.out)⟩, ⟨by repeat (first | (with_reducible first | exact HB.out | apply below_alloc | apply pw_below_drewN | apply below_drew1 | refine below_set ?_ (IsS71.ge HI127.out)) | exact HB.out)⟩⟩
                        · rw [if_neg c23] at H
                          exact absurd H (by simp)
                      · rw [if_neg c22] at H
                        exact absurd H (by simp)
                    · rw [if_neg c20] at H
                      have c20b0 : decide (0 < (x7_2.length : Int)) = false := decide_eq_false c20
                      have c20b1 : decide (0 < x7_2.length) = false := decide_eq_false (by omega)
                      clear c20
                      have H' := Aside0.mk H
                      clear H
                      go_wp2
                      go_meet
                      case rel => exact ⟨_, H', ⟨by have := HJ2.out; have := HK2.out; first | omega | exact Nat.le_refl _⟩, ⟨by (with_reducible repeat (first | apply Kd.R_alloc | apply Kd.R_drewN | apply Kd.R_drew)); exact HO_7.out⟩, ⟨by repeat (first | (with_reducible first | exact HI127.out | apply IsS71.alloc | apply IsS71.drewN | apply IsS71.drew | apply IsS71.set_1 | apply IsS71.set_2 | apply IsS71.set_3) | exact HI127.out)⟩, ⟨by repeat (first | (with_reducible first | exact HB.out | apply below_alloc | apply pw_below_drewN | apply below_drew1 | refine below_set ?_ (IsS71.ge HI127.out)) | exact HB.out)⟩⟩
                · rw [if_neg c18] at H
                  have c18b0 : (t142 == 0) = false := beq_eq_false_iff_ne.mpr c18
                  have c18b1 : (t142 != 0) = true := bne_iff_ne.mpr c18
                  (first | rw [c18b0] | (simp only [i64_w, i32_w]; rw [c18b0]) | skip)
                  simp only [Option.some.injEq, Prod.mk.injEq] at H
                  obtain ⟨rfl, rfl⟩ := H
                  go_wp2
                  go_ret2
                  exact ⟨_, by first | rfl | (simp [errW_none, errW_some] <;> rfl) | (simp [*, errW_none, errW_some] <;> rfl), by first | exact Kd.R_nil _ _ _ _ _ | exact Kd.N_nil _ _ _ _ _ | exact Kd.V_nil _ _ _ _ _ | exact Kd.Q_nil _ _ _ _ _ | exact Kd.S_nil _ _ _ _ _, by repeat (first | (with_reducible first | exact HB.out | apply below_alloc | apply pw_below_drewN | apply below_drew1 | refine below_set ?_ (IsS71.ge HI127.out)) | exact HB.out)⟩
              case rest =>
                clear HC13
                try clear c1
                try clear p1
                try clear q1
                try clear hx1
                try clear c2
                try clear p2
                try clear c4
                try clear c4b0
                try clear c5
                try clear p6
                try clear c8
                try clear c8b0
                try clear c13
                try clear p14
                try clear q14
                try clear hx14
                try clear c15
                try clear c16
                try clear c18
                try clear c18b0
                try clear c18b1
                try clear c19
                try clear c19b0
                try clear c20
                try clear c20b0
                try clear c20b1
                try clear c22
                try clear c22b0
                try clear c23
                try clear c23b0
                try clear c24
                try clear c24b0
                try clear c24b1
                try clear hx147_0
                try clear p147
                try clear p2
                try clear q147
                obtain ⟨kq, HA, HJ12, HO_7, HI127, HB⟩ := hcut
                cases kq with
                | zero => exact absurd HA.out (by simp [runs_Get.j2])
                | succ kj12 =>
                  have H := HA.out
                  clear HA
                  simp only [runs_Get.j2] at H
                  have H' := Aside0.mk H
                  clear H
                  go_wp2
                  go_loopg [7, 64] kj12 (fun kq v7 v64 w' => ∃ (x7_4 : List Int) (x64_4 : Int), v64 = .int .u64 x64_4 ∧ Aside0 (runs_Get.l1 kq a1 x7_4 t141 (IntKind.u64.wrap (t133 + 1)) x64_4 t123 t144 t145 t146 = some (r1, r2)) ∧ Aside0 (kq ≤ kj12) ∧ Aside0 (Kd.R (Kd.int .i64) 2 w' w.heap.size (fun _ => True) v7 x7_4) ∧ Aside0 (IsS71 w w' g127 t123 t144 t145 t146) ∧ Aside0 (Below w.heap.size w w'))
                  case atStart => exact ⟨(x7_2), (0), (by first | rfl | (simp; done) | (simp [*]; done)), H', ⟨Nat.le_refl _⟩, ⟨by (with_reducible repeat (first | apply Kd.R_alloc | apply Kd.R_drewN | apply Kd.R_drew)); exact HO_7.out⟩, ⟨by repeat (first | (with_reducible first | exact HI127.out | apply IsS71.alloc | apply IsS71.drewN | apply IsS71.drew | apply IsS71.set_1 | apply IsS71.set_2 | apply IsS71.set_3) | exact HI127.out)⟩, ⟨by repeat (first | (with_reducible first | exact HB.out | apply below_alloc | apply pw_below_drewN | apply below_drew1 | refine below_set ?_ (IsS71.ge HI127.out)) | exact HB.out)⟩⟩
                  case round =>
                    clear H'
                    try clear c1
                    try clear p1
                    try clear q1
                    try clear hx1
                    try clear c2
                    try clear p2
                    try clear c4
                    try clear c4b0
                    try clear c5
                    try clear p6
                    try clear c8
                    try clear c8b0
                    try clear c13
                    try clear p14
                    try clear q14
                    try clear hx14
                    try clear c15
                    try clear c16
                    try clear c18
                    try clear c18b0
                    try clear c18b1
                    try clear c19
                    try clear c19b0
                    try clear c20
                    try clear c20b0
                    try clear c20b1
                    try clear c22
                    try clear c22b0
                    try clear c23
                    try clear c23b0
                    try clear c24
                    try clear c24b0
                    try clear c24b1
                    try clear hx147_0
                    try clear p1
                    try clear p14
                    try clear p147
                    try clear p2
                    try clear p6
                    try clear q1
                    try clear q14
                    try clear q147
                    obtain ⟨x7_4, x64_4, rfl, HA, HK4, HO_7, HI127, HB⟩ := hrel
                    cases gk with
                    | zero => exact absurd HA.out (by simp [runs_Get.l1])
                    | succ k4 =>
                      have H := HA.out
                      clear HA
                      simp only [runs_Get.l1] at H
                      by_cases c25 : x64_4 < (IntKind.u64.wrap (t133 + 1))
                      · rw [if_pos c25] at H
                        have c25b0 : decide (x64_4 < (IntKind.u64.wrap (t133 + 1))) = true := decide_eq_true c25
                        clear c25
                        by_cases c26 : x7_4.length < 17592186044416
                        · rw [if_pos c26] at H
                          have LMc26 := Aside0.mk c26
                          clear c26
                          obtain ⟨y148, hy148⟩ : ∃ y_ : List Int, y_ = (x7_4 ++ [t141]) := ⟨_, rfl⟩
                          replace H : (runs_Get.l1 k4 a1 y148 t141 (IntKind.u64.wrap (t133 + 1)) (IntKind.u64.wrap (x64_4 + 1)) t123 t144 t145 t146) = some (r1, r2) := by first | (rw [hy148]; with_reducible exact H) | (have H2_ := (Option.bind_some _ _).symm.trans H; rw [hy148]; with_reducible exact H2_) | (have H2_ := (Option.bind_some _ _).symm.trans H; with_reducible exact H2_) | with_reducible exact H | (rw [hy148]; exact H) | exact H
                          have Ny148 := Aside0.mk hy148
                          clear hy148
                          have H' := Aside0.mk H
                          clear H
                          go_wp2_with (first | ((with_reducible refine gate_builtin (b := .append) (xs := #[.tmp 66, .tmp 68]) rfl ?_); at_builtin; refine Kd.R_append (Kd.int .i64) (w0 := w) w.heap.size rfl (.tmp 66) (.tmp 68) 54 2 (.int .i64 0) 8 rfl Tryd.underlying54 info2 rfl (by decide) (by omega) u7 x7_4 t141 [.int .i64 t141] (fun _ => True) (fun _ => False) rfl rfl ?aP (fun _ hk => hk.elim) ?aF ?aO ?aB ?aS ?aL ?_; (case aP => exact rfl); (case aB => exact (by repeat (first | (with_reducible first | exact HB.out | apply below_alloc | apply pw_below_drewN | apply below_drew1 | refine below_set ?_ (IsS71.ge HI127.out)) | exact HB.out))); (case aF => exact (fun _ _ => trivial)); (case aO => exact (by (with_reducible repeat (first | apply Kd.R_alloc | apply Kd.R_drewN | apply Kd.R_drew)); exact HO_7.out)); (case aS => exact (below_size (by repeat (first | (with_reducible first | exact HB.out | apply below_alloc | apply pw_below_drewN | apply below_drew1 | refine below_set ?_ (IsS71.ge HI127.out)) | exact HB.out)))); (case aL => have := LMc26.out; omega); intro v149 w27 ho hb hg hat; rw [← Ny148.out] at ho; have n0_ := Aside0.mk (IsS71.grown (by repeat (first | (with_reducible first | exact HI127.out | apply IsS71.alloc | apply IsS71.drewN | apply IsS71.drew | apply IsS71.set_1 | apply IsS71.set_2 | apply IsS71.set_3) | exact HI127.out)) hg (IsS71.own_ne HI127.out HO_7.out (by decide))); have n1_ := Aside0.mk (hb); have n2_ := Aside0.mk (ho); clear HI127; clear HB; clear HO_7; have HI127 := n0_; have HB := n1_; have HO150 := n2_; clear n0_ n1_ n2_; clear ho hb hg hat))
                          go_roundg k4
                          case measure => have := HJ2.out; have := HK2.out; have := HJ12.out; have := HK4.out; omega
                          case rel => exact ⟨(y148), (IntKind.u64.wrap (x64_4 + 1)), (by first | rfl | (simp; done) | (simp [*]; done)), H', ⟨by have := HJ2.out; have := HK2.out; have := HJ12.out; have := HK4.out; omega⟩, ⟨by (with_reducible repeat (first | apply Kd.R_alloc | apply Kd.R_drewN | apply Kd.R_drew)); exact HO150.out⟩, ⟨by repeat (first | (with_reducible first | exact HI127.out | apply IsS71.alloc | apply IsS71.drewN | apply IsS71.drew | apply IsS71.set_1 | apply IsS71.set_2 | apply IsS71.set_3) | exact HI127.out)⟩, ⟨by repeat (first | (with_reducible first | exact HB.out | apply below_alloc | apply pw_below_drewN | apply below_drew1 | refine below_set ?_ (IsS71.ge HI127.out)) | exact HB.out)⟩⟩
                        · rw [if_neg c26] at H
                          exact absurd H (by simp)
                      · rw [if_neg c25] at H
                        have c25b0 : decide (x64_4 < (IntKind.u64.wrap (t133 + 1))) = false := decide_eq_false c25
                        clear c25
                        have H' := Aside0.mk H
                        clear H
                        go_wp2
                        go_roundg k4
                        case measure => have := HJ2.out; have := HK2.out; have := HJ12.out; have := HK4.out; omega
                        case rel => exact ⟨(x7_4), (t144), (t145), (t146), H', ⟨by have := HJ2.out; have := HK2.out; have := HJ12.out; have := HK4.out; omega⟩, ⟨by (with_reducible repeat (first | apply Kd.R_alloc | apply Kd.R_drewN | apply Kd.R_drew)); exact HO_7.out⟩, ⟨by repeat (first | (with_reducible first | exact HI127.out | apply IsS71.alloc | apply IsS71.drewN | apply IsS71.drew | apply IsS71.set_1 | apply IsS71.set_2 | apply IsS71.set_3) | exact HI127.out)⟩, ⟨by repeat (first | (with_reducible first | exact HB.out | apply below_alloc | apply pw_below_drewN | apply below_drew1 | refine below_set ?_ (IsS71.ge HI127.out)) | exact HB.out)⟩⟩
            · rw [if_neg c8] at H
              have c8b0 : decide ((x7_2.length : Int) < a1) = false := decide_eq_false c8
              clear c8
              replace H := Option.bind_eq_some_iff.mp H
              obtain ⟨⟨t128, t129, t130, t131, t132⟩, A280, H⟩ := H
              replace H : (if t128 = 0 then (some (x7_2, 0)) else (some (([] : List Int), t128))) = some (r1, r2) := H
              have A28 := Aside0.mk A280
              clear A280
              by_cases c29 : t128 = 0
              · rw [if_pos c29] at H
                have c29b0 : (t128 == 0) = true := beq_iff_eq.mpr c29
                have c29b1 : (t128 != 0) = false := bne_eq_false_iff_eq.mpr c29
                clear c29
                simp only [Option.some.injEq, Prod.mk.injEq] at H
                obtain ⟨rfl, rfl⟩ := H
                obtain ⟨Ao30, co30, eo30⟩ := Kd.R_slice HO_7.out
                subst eo30
                go_wp2_with (first | ((with_reducible refine gate_callee (f := 33) rfl ?_); refine goesL_ (some 73) rfl rfl Tryd.func33 (by kernel_rfl) rfl #[.pointer (some ⟨g127, 0, none⟩)] rfl (by (try simp only [List.map_toArray, List.map_cons, List.map_nil]); first | done | rfl | (simp only [List.length_drop, List.length_take]; rfl)) ?_; (with_reducible refine (num_Reader_End.calls g127 t123 x128001_2 x128002_2 x128003_2 t128 t129 t130 t131 t132 w _ ?side1 ?side2 A28.out).mono ?_); (case side1 => repeat (first | (with_reducible first | exact HI127.out | apply IsS71.alloc | apply IsS71.drewN | apply IsS71.drew | apply IsS71.set_1 | apply IsS71.set_2 | apply IsS71.set_3) | exact HI127.out)); (case side2 => repeat (first | (with_reducible first | exact HB.out | apply below_alloc | apply pw_below_drewN | apply below_drew1 | refine below_set ?_ (IsS71.ge HI127.out)) | exact HB.out)); rintro e w31 ⟨rfl, hi, hb, hk⟩; refine ⟨_, rfl, ?_⟩; have n0_ := Aside0.mk (Kd.R_mono (Kd.R_keep (IsS71.apart (show IsS71 w _ g127 t123 x128001_2 x128002_2 x128003_2 from by repeat (first | (with_reducible first | exact HI127.out | apply IsS71.alloc | apply IsS71.drewN | apply IsS71.drew | apply IsS71.set_1 | apply IsS71.set_2 | apply IsS71.set_3) | exact HI127.out)) (by (with_reducible repeat (first | apply Kd.R_alloc | apply Kd.R_drewN | apply Kd.R_drew)); exact HO_7.out) (by decide)) hk (fun _ h => h.2)) (fun _ h => h.1)); have n1_ := Aside0.mk (hb); have n2_ := Aside0.mk (hi); clear HO_7; clear HB; clear HI127; have HO_7 := n0_; have HB := n1_; have HI127 := n2_; clear n0_ n1_ n2_; (try clear hb); (try clear hb2); (try clear hk); (try clear hi)))
                go_ret2
                exact ⟨_, by first | rfl | (simp [errW_none, errW_some] <;> rfl) | (simp [*, errW_none, errW_some] <;> rfl), by (with_reducible repeat (first | apply Kd.R_alloc | apply Kd.R_drewN | apply Kd.R_drew)); exact HO_7.out, by repeat (first | (with_reducible first | exact HB.out | apply below_alloc | apply pw_below_drewN | apply below_drew1 | refine below_set ?_ (IsS71.ge HI127.out)) | exact HB.out)⟩
              · rw [if_neg c29] at H
                have c29b0 : (t128 == 0) = false := beq_eq_false_iff_ne.mpr c29
                have c29b1 : (t128 != 0) = true := bne_iff_ne.mpr c29
                simp only [Option.some.injEq, Prod.mk.injEq] at H
                obtain ⟨rfl, rfl⟩ := H
                obtain ⟨Ao32, co32, eo32⟩ := Kd.R_slice HO_7.out
                subst eo32
                go_wp2_with (first | ((with_reducible refine gate_callee (f := 33) rfl ?_); refine goesL_ (some 73) rfl rfl Tryd.func33 (by kernel_rfl) rfl #[.pointer (some ⟨g127, 0, none⟩)] rfl (by (try simp only [List.map_toArray, List.map_cons, List.map_nil]); first | done | rfl | (simp only [List.length_drop, List.length_take]; rfl)) ?_; (with_reducible refine (num_Reader_End.calls g127 t123 x128001_2 x128002_2 x128003_2 t128 t129 t130 t131 t132 w _ ?side1 ?side2 A28.out).mono ?_); (case side1 => repeat (first | (with_reducible first | exact HI127.out | apply IsS71.alloc | apply IsS71.drewN | apply IsS71.drew | apply IsS71.set_1 | apply IsS71.set_2 | apply IsS71.set_3) | exact HI127.out)); (case side2 => repeat (first | (with_reducible first | exact HB.out | apply below_alloc | apply pw_below_drewN | apply below_drew1 | refine below_set ?_ (IsS71.ge HI127.out)) | exact HB.out)); rintro e w33 ⟨rfl, hi, hb, hk⟩; refine ⟨_, rfl, ?_⟩; have n0_ := Aside0.mk (Kd.R_mono (Kd.R_keep (IsS71.apart (show IsS71 w _ g127 t123 x128001_2 x128002_2 x128003_2 from by repeat (first | (with_reducible first | exact HI127.out | apply IsS71.alloc | apply IsS71.drewN | apply IsS71.drew | apply IsS71.set_1 | apply IsS71.set_2 | apply IsS71.set_3) | exact HI127.out)) (by (with_reducible repeat (first | apply Kd.R_alloc | apply Kd.R_drewN | apply Kd.R_drew)); exact HO_7.out) (by decide)) hk (fun _ h => h.2)) (fun _ h => h.1)); have n1_ := Aside0.mk (hb); have n2_ := Aside0.mk (hi); clear HO_7; clear HB; clear HI127; have HO_7 := n0_; have HB := n1_; have HI127 := n2_; clear n0_ n1_ n2_; (try clear hb); (try clear hb2); (try clear hk); (try clear hi)))
                go_ret2
                exact ⟨_, by first | rfl | (simp [errW_none, errW_some] <;> rfl) | (simp [*, errW_none, errW_some] <;> rfl), by first | exact Kd.R_nil _ _ _ _ _ | exact Kd.N_nil _ _ _ _ _ | exact Kd.V_nil _ _ _ _ _ | exact Kd.Q_nil _ _ _ _ _ | exact Kd.S_nil _ _ _ _ _, by repeat (first | (with_reducible first | exact HB.out | apply below_alloc | apply pw_below_drewN | apply below_drew1 | refine below_set ?_ (IsS71.ge HI127.out)) | exact HB.out)⟩

/-! ### runs_Count: function 44 -/
section
open Go.Shelf
attribute [local go_sem] Oper.semAt_some
theorem cell_of_box_l {W : World} {B : Nat} {v : Value} {t : TypeId} (h : W.heap[B]? = some (.cells #[v] t (0, 0))) : W.cell? ⟨B, 0, none⟩ = some v ∧ W.frozen? ⟨B, 0, none⟩ = false := by
  constructor <;> simp [World.cell?, World.frozen?, h]
theorem cell_new_l (W : World) (v : Value) (t : TypeId) : (W.alloc (.cells #[v] t)).cell? ⟨W.heap.size, 0, none⟩ = some v ∧ (W.alloc (.cells #[v] t)).frozen? ⟨W.heap.size, 0, none⟩ = false :=
  cell_of_box_l (World.alloc_heap_new W _)
theorem cell_alloc_l {W : World} {a : Addr} {v : Value} (o : Obj) (h : W.cell? a = some v) : (W.alloc o).cell? a = some v := cell_kept h (World.grownBy_alloc W o none) (fun r e => by cases e)
theorem frozen_alloc_l {W : World} {a : Addr} {v : Value} (o : Obj) (h : W.cell? a = some v) (hf : W.frozen? a = false) : (W.alloc o).frozen? a = false := (frozen_kept h (World.grownBy_alloc W o none) (fun r e => by cases e)).trans hf
theorem same_putObj (W : World) (l k : Nat) (o' : Obj) (h : k ≠ l) : (W.putObj l o').heap[k]? = W.heap[k]? := by
  unfold World.putObj; simp [Array.getElem?_setIfInBounds]; intro e; exact absurd e.symm h
set_option maxRecDepth 100000 in
set_option maxHeartbeats 4000000 in
theorem count_in (n : Nat) (hn : 3 ≤ n) (a : Option Addr) (len cap : Nat) (zs : List Int) (hreach : zs.length * 8 ≤ 140737488351232) (w : World) (hI : Ints w.heap.size w.heap.size w (.slice a len cap) zs) :
    CallsIn Fence.wide n Tryd.prog 44 #[.slice a len cap] w fun e W' => e = .returned (.int .i64 ((runsOf zs).length : Int)) ∧ Below w.heap.size w W' := by
  have h1 : 1 ≤ n := by omega
  refine callsIn_of_wp_marks Tryd.func44 rfl trivial ?_ rfl
  simp only [Tryd.ntmps44, List.size_toArray, List.length_cons, List.length_nil, Nat.reduceAdd, Nat.reduceSub, Array.replicate_succ, Array.replicate_zero, List.push_toArray, List.append_toArray, List.nil_append, List.cons_append]
  gi_wp2_with (refine ⟨trivial, ?_⟩; gi_at_call 54; refine (each_in (n - 1) _ _ _ _).mono ?_; rintro e w' ⟨rfl, rfl⟩)
  have hs := cell_new_l w (.int .i64 0) 3
  have hb := cell_new_l (w.alloc (.cells #[.int .i64 0] 3)) (.slice a len cap) 54
  rw [World.size_alloc] at hb
  have hB0 : Below w.heap.size w ((w.alloc (.cells #[.int .i64 0] 3)).alloc (.cells #[.slice a len cap] 54)) := ((Below.refl _ w).alloc (Nat.le_refl _) _).alloc (by simp) _
  have hI2 : Ints (w.heap.size + 2) w.heap.size ((w.alloc (.cells #[.int .i64 0] 3)).alloc (.cells #[.slice a len cap] 54)) (.slice a len cap) zs := by
    rcases hI with ⟨e, h⟩ | ⟨b, off, cap', e, hbl, hc⟩
    · exact .inl ⟨e, h⟩
    · exact .inr ⟨b, off, cap', e, ⟨by omega, by omega⟩, fun j hj => (hB0.cell (p := ⟨b, off + j, none⟩) hbl.1).trans (hc j hj)⟩
  have hzl : zs.length < 9223372036854775807 := by omega
  refine wpIn_rangeFunc_ownF rfl h1 (gf := 66) (lb := #[.pointer (some ⟨w.heap.size + 1, 0, none⟩)]) rfl trivial (enters_of Tryd.func66 (by kernel_rfl) rfl)
    (each_stops (fun _ => True) (n - 1) (by omega) (w.heap.size + 1) (w.heap.size + 2) w.heap.size (.slice a len cap) zs (fun _ _ => trivial) hreach _ (by simp) ⟨by omega, by omega⟩ (by simp) hb.1 hI2) (fun h k => h.trans k)
    (fun W l o o' hl _ _ _ k hk _ => by simp at hl; exact same_putObj W l k o' (by omega)) (Below.refl _ _) (fun _ => rfl)
    (fun pre W => (W.cell? ⟨w.heap.size, 0, none⟩ = some (.int .i64 (pre.length : Int)) ∧ W.frozen? ⟨w.heap.size, 0, none⟩ = false) ∧ Below w.heap.size w W)
    (fun _ _ _ => False)
    (OwnFrom.and (Own.from (fun s A B row hs hg hr => ⟨cell_kept hs.1 hg hr, (frozen_kept hs.1 hg hr).trans hs.2⟩) _) (ownFrom_below (Nat.le_refl _) (by simp; omega)))
    (fun _ _ _ _ _ hs _ _ => hs)
    ⟨⟨cell_alloc_l _ hs.1, frozen_alloc_l _ hs.1 hs.2⟩, hB0⟩
    (fun x => { tmps := #[.slice a len cap, undef, .int .i64 0, .pointer (some ⟨w.heap.size, 0, none⟩), .slice a len cap, .func (.func 66) #[] #[.pointer (some ⟨w.heap.size + 1, 0, none⟩)], .int .i64 x.1.1, .int .i64 (x.1.2 : Int), undef, undef, undef], defers := [] }) ?assign ?body ?done ?stop
  case assign =>
    intro l x W K hK
    gi_wp2
    simpa using hK
  case body =>
    rintro l pre x W ⟨⟨hc, hf⟩, hB⟩ hpl
    gi_wp2
    exact ⟨KeepsOthers.setCell _ _ _, fun k hk hne => Below.heap_setCell W _ _ k hne, ⟨by rw [List.length_append]; exact World.cell?_setCell_same' _ _ _ (by rw [hc]; rfl), by rw [World.frozen?_setCell]; exact hf⟩, hB.setCell (p := ⟨w.heap.size, 0, none⟩) (Nat.le_refl _) _⟩
  case done =>
    rintro D ys W hD hys ⟨⟨hc, _⟩, hB⟩ hK
    have hlen : ys.length = (runsOf zs).length := by rw [← hys, List.length_map]
    rw [hlen] at hc
    gi_wp2
    refine ⟨by simp, .inl ⟨_, _, rfl, run_takeDeferred hK, ?_⟩⟩
    exact ⟨_, results_tmp rfl _ _ _, rfl, hB.trans (belowK_b (w := w) (Nat.le_refl _) W D _ _ (by simp at hD; omega) hK rfl rfl)⟩
  case stop =>
    rintro D c pre W _ _ h _
    exact h.elim
def runs_Count.f (l0 : List Int) : Option (Int) := if l0.length * 8 ≤ 140737488351232 then some ((runsOf l0).length : Int) else none
theorem runs_Count.calls (A0 : Option Addr) (c0 : Nat) (l0 : List Int) (r : Int) (w : World) (hr0 : (Kd.int .i64).C w A0 l0.length l0) (hc0 : l0.length ≤ c0) (h : runs_Count.f l0 = some r) :
    Calls Tryd.prog 44 #[.slice A0 l0.length c0] w fun e w' => e = .returned (.int .i64 r) ∧ Below w.heap.size w w' := by
  unfold runs_Count.f at h
  by_cases hl : l0.length * 8 ≤ 140737488351232
  · rw [if_pos hl] at h
    obtain rfl := Option.some.inj h
    exact callsIn_wide.1 (count_in 3 (by omega) A0 l0.length c0 l0 hl w (Ints.of_C hr0 _ (Nat.le_refl _)))
  · rw [if_neg hl] at h; cases h
end

end Go.Proofs.YtjmhfbgpebgcmaaDoor.PRunsBack
