/- WRITTEN BY A PROGRAM of this session (wip/tool: a turned copy of the printer), out of the translation: Lean functions with the answers of the Go functions, and the proofs that the Go code comes to them. -/
import Derived.Test.YtjmhfbgpebgcmaaDoorPPlainGetsx0
import Derived.Test.YtjmhfbgpebgcmaaDoorPPlainGetsx1
import Derived.Test.YtjmhfbgpebgcmaaDoorPPlainGetsx2
namespace Go.Proofs.YtjmhfbgpebgcmaaDoor.PPlainGets
open Go.RowKit Go.Proofs.YtjmhfbgpebgcmaaDoorW.PrintWords Go.Proofs.YtjmhfbgpebgcmaaDoorW.PrintLast Go.Proofs.YtjmhfbgpebgcmaaDoorW.PrintMore
attribute [local go_sem] max2_int min2_int max_two min_two max_three min_three max_four min_four   -- for this text's walks alone
set_option linter.unusedVariables false
set_option linter.unusedSimpArgs false

/-! ### plain_Get: function 36 -/
mutual
def plain_Get.j0 : Nat → List Int → Int → Bool → Option (List Int × Int)
  | 0, _, _, _ => none
  | k + 1, x0, x1, x18 => if x18 = true then (some (([] : List Int), 1)) else ((num_NewReader.f x0).bind fun bt126 => (plain_Get.l0 k ([] : List Int) x1 0 bt126.1 bt126.2.1 bt126.2.2.1 bt126.2.2.2))
def plain_Get.l0 : Nat → List Int → Int → Int → List Int → Int → Int → Int → Option (List Int × Int)
  | 0, _, _, _, _, _, _, _ => none
  | k + 1, x7, x21, x22, x131000, x131001, x131002, x131003 => if x22 < x21 then ((num_Reader_Var.f k x131000 x131001 x131002 x131003).bind fun bt136 => ((num_Reader_Err.f x131000 bt136.2.1 bt136.2.2.1 bt136.2.2.2).bind fun bt140 => (if bt140.1 = 0 then ((num_Zag.f bt136.1).bind fun t145 => (if x7.length < 17592186044416 then (plain_Get.l0 k (x7 ++ [t145]) x21 (wrap64 (x22 + 1)) x131000 bt140.2.2.1 bt140.2.2.2.1 bt140.2.2.2.2) else (none))) else (some (([] : List Int), bt140.1))))) else ((num_Reader_End.f x131000 x131001 x131002 x131003).bind fun bt131 => (if bt131.1 = 0 then (some (x7, 0)) else (some (([] : List Int), bt131.1))))
end
def plain_Get.f (k : Nat) (l0 : List Int) (a1 : Int) : Option (List Int × Int) := if a1 < 0 then (plain_Get.j0 k l0 a1 true) else (plain_Get.j0 k l0 a1 (decide (a1 > 65536)))
theorem plain_Get.mono_l : ∀ k, (∀ y0 y1 y2, LeO (plain_Get.j0 k y0 y1 y2) (plain_Get.j0 (k + 1) y0 y1 y2)) ∧ (∀ y0 y1 y2 y3 y4 y5 y6, LeO (plain_Get.l0 k y0 y1 y2 y3 y4 y5 y6) (plain_Get.l0 (k + 1) y0 y1 y2 y3 y4 y5 y6))
  | 0 => ⟨fun _ _ _ r h => by simp [plain_Get.j0] at h, fun _ _ _ _ _ _ _ r h => by simp [plain_Get.l0] at h⟩
  | k + 1 => by
    obtain ⟨ih0, ih1⟩ := plain_Get.mono_l k
    refine ⟨?_, ?_⟩
    · intro y0 y1 y2
      unfold plain_Get.j0
      repeat' first
      | (with_reducible exact ih0 _ _ _)
      | (with_reducible exact ih1 _ _ _ _ _ _ _)
      | (with_reducible exact num_Reader_Var.mono _ _ _ _ _)
      | (with_reducible exact LeO.refl _)
      | (with_reducible exact LeO.none _)
      | (with_reducible refine LeO.ite ?_ ?_)
      | (with_reducible refine LeO.bind ?_ (fun _ => ?_))
      | exact ih0 _ _ _
      | exact ih1 _ _ _ _ _ _ _
      | exact num_Reader_Var.mono _ _ _ _ _
      | exact LeO.none _
      | refine LeO.ite ?_ ?_
      | refine LeO.bind ?_ (fun _ => ?_)
    · intro y0 y1 y2 y3 y4 y5 y6
      unfold plain_Get.l0
      repeat' first
      | (with_reducible exact ih0 _ _ _)
      | (with_reducible exact ih1 _ _ _ _ _ _ _)
      | (with_reducible exact num_Reader_Var.mono _ _ _ _ _)
      | (with_reducible exact LeO.refl _)
      | (with_reducible exact LeO.none _)
      | (with_reducible refine LeO.ite ?_ ?_)
      | (with_reducible refine LeO.bind ?_ (fun _ => ?_))
      | exact ih0 _ _ _
      | exact ih1 _ _ _ _ _ _ _
      | exact num_Reader_Var.mono _ _ _ _ _
      | exact LeO.none _
      | refine LeO.ite ?_ ?_
      | refine LeO.bind ?_ (fun _ => ?_)
theorem plain_Get.mono : ∀ a0 a1 k, LeO (plain_Get.f k a0 a1) (plain_Get.f (k + 1) a0 a1) := by
  intro a0 a1 k
  obtain ⟨ih0, ih1⟩ := plain_Get.mono_l k
  unfold plain_Get.f
  repeat' first
      | (with_reducible exact ih0 _ _ _)
      | (with_reducible exact ih1 _ _ _ _ _ _ _)
      | (with_reducible exact num_Reader_Var.mono _ _ _ _ _)
      | (with_reducible exact LeO.refl _)
      | (with_reducible exact LeO.none _)
      | (with_reducible refine LeO.ite ?_ ?_)
      | (with_reducible refine LeO.bind ?_ (fun _ => ?_))
      | exact ih0 _ _ _
      | exact ih1 _ _ _ _ _ _ _
      | exact num_Reader_Var.mono _ _ _ _ _
      | exact LeO.none _
      | refine LeO.ite ?_ ?_
      | refine LeO.bind ?_ (fun _ => ?_)
set_option maxHeartbeats 8000000 in
set_option maxRecDepth 100000 in
theorem plain_Get.calls (k : Nat) (A0 : Option Addr) (c0 : Nat) (l0 : List Int) (a1 : Int) (r1 : List Int) (r2 : Int) (w : World) (hr0 : Kd.C (Kd.int .u8) w A0 l0.length l0) (hc0 : l0.length ≤ c0) (hG : HG w) (h : plain_Get.f k l0 a1 = some (r1, r2)) :
    Calls Tryd.prog 36 #[.slice A0 l0.length c0, .int .i64 a1] w fun e w' => ∃ v0_ : Value, e = .returned (.tuple #[v0_, .int .i64 r2]) ∧ Kd.R (Kd.int .i64) 2 w' w.heap.size (fun _ => True) v0_ r1 ∧ Below w.heap.size w w' := by
  have HR0 := Aside0.mk hr0
  have HC0 := Aside0.mk hc0
  clear hr0 hc0
  have HB := Aside0.mk (Below.refl w.heap.size w)
  have H : (if a1 < 0 then (plain_Get.j0 k l0 a1 true) else (plain_Get.j0 k l0 a1 (decide (a1 > 65536)))) = some (r1, r2) := h
  clear h
  have HC3 := Aside0.mk H
  clear H
  go_enter Tryd.func36, Tryd.ntmps36
  go_upto_region 1 with (fail)
  go_cut [18] (fun v18 wc => ∃ (kq : Nat) (x18_2 : Bool), v18 = .bool x18_2 ∧ Aside0 (plain_Get.j0 kq l0 a1 x18_2 = some (r1, r2)) ∧ Aside0 (kq ≤ k) ∧ Aside0 (Below w.heap.size w wc))
  case first =>
    have H := HC3.out
    clear HC3
    by_cases c4 : a1 < 0
    · rw [if_pos c4] at H
      have c4b0 : decide (a1 < 0) = true := decide_eq_true c4
      clear c4
      (first | rw [c4b0] | (simp only [i64_w, i32_w]; rw [c4b0]) | skip)
      have H' := Aside0.mk H
      clear H
      go_wp2
      go_meet
      case rel => exact ⟨_, (true), (by first | rfl | (simp; done) | (simp [*]; done)), H', ⟨by first | omega | exact Nat.le_refl _⟩, ⟨by repeat (first | (with_reducible first | exact HB.out | apply below_alloc | apply pw_below_drewN | apply below_drew1) | exact HB.out)⟩⟩
    · rw [if_neg c4] at H
      have c4b0 : decide (a1 < 0) = false := decide_eq_false c4
      clear c4
      (first | rw [c4b0] | (simp only [i64_w, i32_w]; rw [c4b0]) | skip)
      have H' := Aside0.mk H
      clear H
      go_wp2
      go_meet
      case rel => exact ⟨_, (decide (a1 > 65536)), (by first | rfl | (simp; done) | (simp [*]; done)), H', ⟨by first | omega | exact Nat.le_refl _⟩, ⟨by repeat (first | (with_reducible first | exact HB.out | apply below_alloc | apply pw_below_drewN | apply below_drew1) | exact HB.out)⟩⟩
  case rest =>
    clear HC3
    try clear p2
    try clear c3
    try clear c4
    try clear c4b0
    obtain ⟨kq, x18_2, rfl, HA, HJ2, HB⟩ := hcut
    cases kq with
    | zero => exact absurd HA.out (by simp [plain_Get.j0])
    | succ kj2 =>
      have H := HA.out
      clear HA
      simp only [plain_Get.j0] at H
      by_cases c5 : x18_2 = true
      · subst c5
        have H1 : (some (([] : List Int), 1)) = some (r1, r2) := by rw [if_pos rfl] at H; exact H
        clear H
        have H := H1
        clear H1
        simp only [Option.some.injEq, Prod.mk.injEq] at H
        obtain ⟨rfl, rfl⟩ := H
        go_wp2
        go_ret2
        exact ⟨_, by first | rfl | (simp [errW_none, errW_some] <;> rfl) | (simp [*, errW_none, errW_some] <;> rfl), by first | exact Kd.R_nil _ _ _ _ _ | exact Kd.N_nil _ _ _ _ _ | exact Kd.V_nil _ _ _ _ _ | exact Kd.Q_nil _ _ _ _ _ | exact Kd.S_nil _ _ _ _ _, by repeat (first | (with_reducible first | exact HB.out | apply below_alloc | apply pw_below_drewN | apply below_drew1) | exact HB.out)⟩
      · replace c5 := Bool.eq_false_iff.mpr c5
        subst c5
        have H1 : ((num_NewReader.f l0).bind fun bt126 => (plain_Get.l0 kj2 ([] : List Int) a1 0 bt126.1 bt126.2.1 bt126.2.2.1 bt126.2.2.2)) = some (r1, r2) := by rw [if_neg (show ¬ (false = true) by decide)] at H; exact H
        clear H
        have H := H1
        clear H1
        replace H := Option.bind_eq_some_iff.mp H
        obtain ⟨⟨t126, t127, t128, t129⟩, A60, H⟩ := H
        replace H : (plain_Get.l0 kj2 ([] : List Int) a1 0 t126 t127 t128 t129) = some (r1, r2) := H
        have A6 := Aside0.mk A60
        clear A60
        have H' := Aside0.mk H
        clear H
        go_wp2_with (first | ((with_reducible refine gate_callee (f := 13) rfl ?_); refine goesL_ (some 20) rfl rfl Tryd.func13 (by kernel_rfl) rfl #[.slice A0 l0.length c0] rfl (by (try simp only [List.map_toArray, List.map_cons, List.map_nil]); first | done | rfl | (simp only [List.length_drop, List.length_take]; rfl)) ?_; (with_reducible refine (num_NewReader.calls _ _ l0 t126 t127 t128 t129 w _ ?side1 ?side2 ?side3 hG A6.out).mono ?_); (case side1 => repeat (first | (with_reducible first | exact HB.out | apply below_alloc | apply pw_below_drewN | apply below_drew1) | exact HB.out)); (case side2 => repeat (first | exact (Kd.C_below HR0.out HB.out) | (with_reducible refine Kd.C_alloc ?_ _) | (with_reducible refine Kd.C_drewN ?_ _) | (with_reducible refine Kd.C_drew ?_))); (case side3 => exact HC0.out); rintro e w7 ⟨g130, rfl, hi, hb, hb2⟩; refine ⟨_, rfl, ?_⟩; have n0_ := Aside0.mk (hb); have n1_ := Aside0.mk (hi); clear HB; have HB := n0_; have HI130 := n1_; clear n0_ n1_; (try clear hb); (try clear hb2); (try clear hk); (try clear hi)))
        go_loopg [7, 22] kj2 (fun kq v7 v22 w' => ∃ (x7_2 : List Int) (x22_2 : Int) (x131001_2 : Int) (x131002_2 : Int) (x131003_2 : Int), v22 = .int .i64 x22_2 ∧ Aside0 (plain_Get.l0 kq x7_2 a1 x22_2 t126 x131001_2 x131002_2 x131003_2 = some (r1, r2)) ∧ Aside0 (kq ≤ kj2) ∧ Aside0 (Kd.R (Kd.int .i64) 2 w' w.heap.size (fun _ => True) v7 x7_2) ∧ Aside0 (IsS71 w w' g130 t126 x131001_2 x131002_2 x131003_2) ∧ Aside0 (Below w.heap.size w w'))
        case atStart => exact ⟨(([] : List Int)), (0), (t127), (t128), (t129), (by first | rfl | (simp; done) | (simp [*]; done)), H', ⟨Nat.le_refl _⟩, ⟨by first | exact Kd.R_nil _ _ _ _ _ | exact Kd.N_nil _ _ _ _ _ | exact Kd.V_nil _ _ _ _ _ | exact Kd.Q_nil _ _ _ _ _ | exact Kd.S_nil _ _ _ _ _⟩, ⟨by repeat (first | (with_reducible first | exact HI130.out | apply IsS71.alloc | apply IsS71.drewN | apply IsS71.drew | apply IsS71.set_1 | apply IsS71.set_2 | apply IsS71.set_3) | exact HI130.out)⟩, ⟨by repeat (first | (with_reducible first | exact HB.out | apply below_alloc | apply pw_below_drewN | apply below_drew1 | refine below_set ?_ (IsS71.ge HI130.out)) | exact HB.out)⟩⟩
        case round =>
          clear H'
          try clear c1
          try clear p2
          try clear c3
          try clear c4
          try clear c4b0
          try clear c5
          try clear p2
          obtain ⟨x7_2, x22_2, x131001_2, x131002_2, x131003_2, rfl, HA, HK2, HO_7, HI130, HB⟩ := hrel
          cases gk with
          | zero => exact absurd HA.out (by simp [plain_Get.l0])
          | succ k2 =>
            have H := HA.out
            clear HA
            simp only [plain_Get.l0] at H
            by_cases c8 : x22_2 < a1
            · rw [if_pos c8] at H
              have c8b0 : decide (x22_2 < a1) = true := decide_eq_true c8
              clear c8
              replace H := Option.bind_eq_some_iff.mp H
              obtain ⟨⟨t136, t137, t138, t139⟩, A90, H⟩ := H
              replace H : ((num_Reader_Err.f t126 t137 t138 t139).bind fun bt140 => (if bt140.1 = 0 then ((num_Zag.f t136).bind fun t145 => (if x7_2.length < 17592186044416 then (plain_Get.l0 k2 (x7_2 ++ [t145]) a1 (wrap64 (x22_2 + 1)) t126 bt140.2.2.1 bt140.2.2.2.1 bt140.2.2.2.2) else (none))) else (some (([] : List Int), bt140.1)))) = some (r1, r2) := H
              have A9 := Aside0.mk A90
              clear A90
              replace H := Option.bind_eq_some_iff.mp H
              obtain ⟨⟨t140, t141, t142, t143, t144⟩, A100, H⟩ := H
              replace H : (if t140 = 0 then ((num_Zag.f t136).bind fun t145 => (if x7_2.length < 17592186044416 then (plain_Get.l0 k2 (x7_2 ++ [t145]) a1 (wrap64 (x22_2 + 1)) t126 t142 t143 t144) else (none))) else (some (([] : List Int), t140))) = some (r1, r2) := H
              have A10 := Aside0.mk A100
              clear A100
              by_cases c11 : t140 = 0
              · rw [if_pos c11] at H
                have c11b0 : (t140 == 0) = true := beq_iff_eq.mpr c11
                have c11b1 : (t140 != 0) = false := bne_eq_false_iff_eq.mpr c11
                clear c11
                replace H := Option.bind_eq_some_iff.mp H
                obtain ⟨t145, A120, H⟩ := H
                replace H : (if x7_2.length < 17592186044416 then (plain_Get.l0 k2 (x7_2 ++ [t145]) a1 (wrap64 (x22_2 + 1)) t126 t142 t143 t144) else (none)) = some (r1, r2) := H
                have A12 := Aside0.mk A120
                clear A120
                by_cases c13 : x7_2.length < 17592186044416
                · rw [if_pos c13] at H
                  have LMc13 := Aside0.mk c13
                  clear c13
                  obtain ⟨y146, hy146⟩ : ∃ y_ : List Int, y_ = (x7_2 ++ [t145]) := ⟨_, rfl⟩
                  replace H : (plain_Get.l0 k2 y146 a1 (wrap64 (x22_2 + 1)) t126 t142 t143 t144) = some (r1, r2) := by first | (rw [hy146]; with_reducible exact H) | (have H2_ := (Option.bind_some _ _).symm.trans H; rw [hy146]; with_reducible exact H2_) | (have H2_ := (Option.bind_some _ _).symm.trans H; with_reducible exact H2_) | with_reducible exact H | (rw [hy146]; exact H) | exact H
                  have Ny146 := Aside0.mk hy146
                  clear hy146
                  have H' := Aside0.mk H
                  clear H
                  go_wp2_with (first | ((with_reducible refine gate_callee (f := 15) rfl ?_); refine goesL_ (some 25) rfl rfl Tryd.func15 (by kernel_rfl) rfl #[.pointer (some ⟨g130, 0, none⟩)] rfl (by (try simp only [List.map_toArray, List.map_cons, List.map_nil]); first | done | rfl | (simp only [List.length_drop, List.length_take]; rfl)) ?_; (with_reducible refine (num_Reader_Var.calls k2 g130 t126 x131001_2 x131002_2 x131003_2 t136 t137 t138 t139 w _ ?side1 ?side2 A9.out).mono ?_); (case side1 => repeat (first | (with_reducible first | exact HI130.out | apply IsS71.alloc | apply IsS71.drewN | apply IsS71.drew | apply IsS71.set_1 | apply IsS71.set_2 | apply IsS71.set_3) | exact HI130.out)); (case side2 => repeat (first | (with_reducible first | exact HB.out | apply below_alloc | apply pw_below_drewN | apply below_drew1 | refine below_set ?_ (IsS71.ge HI130.out)) | exact HB.out)); rintro e w14 ⟨rfl, hi, hb, hk⟩; refine ⟨_, rfl, ?_⟩; have n0_ := Aside0.mk (Kd.R_mono (Kd.R_keep (IsS71.apart (show IsS71 w _ g130 t126 x131001_2 x131002_2 x131003_2 from by repeat (first | (with_reducible first | exact HI130.out | apply IsS71.alloc | apply IsS71.drewN | apply IsS71.drew | apply IsS71.set_1 | apply IsS71.set_2 | apply IsS71.set_3) | exact HI130.out)) (by (with_reducible repeat (first | apply Kd.R_alloc | apply Kd.R_drewN | apply Kd.R_drew)); exact HO_7.out) (by decide)) hk (fun _ h => h.2)) (fun _ h => h.1)); have n1_ := Aside0.mk (hb); have n2_ := Aside0.mk (hi); clear HO_7; clear HB; clear HI130; have HO_7 := n0_; have HB := n1_; have HI130 := n2_; clear n0_ n1_ n2_; (try clear hb); (try clear hb2); (try clear hk); (try clear hi)) | ((with_reducible refine gate_callee (f := 16) rfl ?_); refine goesL_ (some 28) rfl rfl Tryd.func16 (by kernel_rfl) rfl #[.pointer (some ⟨g130, 0, none⟩)] rfl (by (try simp only [List.map_toArray, List.map_cons, List.map_nil]); first | done | rfl | (simp only [List.length_drop, List.length_take]; rfl)) ?_; (with_reducible refine (num_Reader_Err.calls g130 t126 t137 t138 t139 t140 t141 t142 t143 t144 w _ ?side1 ?side2 A10.out).mono ?_); (case side1 => repeat (first | (with_reducible first | exact HI130.out | apply IsS71.alloc | apply IsS71.drewN | apply IsS71.drew | apply IsS71.set_1 | apply IsS71.set_2 | apply IsS71.set_3) | exact HI130.out)); (case side2 => repeat (first | (with_reducible first | exact HB.out | apply below_alloc | apply pw_below_drewN | apply below_drew1 | refine below_set ?_ (IsS71.ge HI130.out)) | exact HB.out)); rintro e w15 ⟨rfl, hi, hb, hk⟩; refine ⟨_, rfl, ?_⟩; have n0_ := Aside0.mk (Kd.R_mono (Kd.R_keep (IsS71.apart (show IsS71 w _ g130 t126 t137 t138 t139 from by repeat (first | (with_reducible first | exact HI130.out | apply IsS71.alloc | apply IsS71.drewN | apply IsS71.drew | apply IsS71.set_1 | apply IsS71.set_2 | apply IsS71.set_3) | exact HI130.out)) (by (with_reducible repeat (first | apply Kd.R_alloc | apply Kd.R_drewN | apply Kd.R_drew)); exact HO_7.out) (by decide)) hk (fun _ h => h.2)) (fun _ h => h.1)); have n1_ := Aside0.mk (hb); have n2_ := Aside0.mk (hi); clear HO_7; clear HB; clear HI130; have HO_7 := n0_; have HB := n1_; have HI130 := n2_; clear n0_ n1_ n2_; (try clear hb); (try clear hb2); (try clear hk); (try clear hi)) | ((with_reducible refine gate_callee (f := 26) rfl ?_); refine goesL_ (some 36) rfl rfl Tryd.func26 (by kernel_rfl) rfl #[.int .u64 t136] rfl (by (try simp only [List.map_toArray, List.map_cons, List.map_nil]); first | done | rfl | (simp only [List.length_drop, List.length_take]; rfl)) ?_; (with_reducible refine (num_Zag.calls t136 t145 _ A12.out).mono ?_); rintro e w' ⟨rfl, ⟨nd, rfl⟩⟩; refine ⟨_, rfl, ?_⟩) | ((with_reducible refine gate_builtin (b := .append) (xs := #[.tmp 34, .tmp 37]) rfl ?_); at_builtin; refine Kd.R_append (Kd.int .i64) (w0 := w) w.heap.size rfl (.tmp 34) (.tmp 37) 54 2 (.int .i64 0) 8 rfl Tryd.underlying54 info2 rfl (by decide) (by omega) u7 x7_2 t145 [.int .i64 t145] (fun _ => True) (fun _ => False) rfl rfl ?aP (fun _ hk => hk.elim) ?aF ?aO ?aB ?aS ?aL ?_; (case aP => exact rfl); (case aB => exact (by repeat (first | (with_reducible first | exact HB.out | apply below_alloc | apply pw_below_drewN | apply below_drew1 | refine below_set ?_ (IsS71.ge HI130.out)) | exact HB.out))); (case aF => exact (fun _ _ => trivial)); (case aO => exact (by (with_reducible repeat (first | apply Kd.R_alloc | apply Kd.R_drewN | apply Kd.R_drew)); exact HO_7.out)); (case aS => exact (below_size (by repeat (first | (with_reducible first | exact HB.out | apply below_alloc | apply pw_below_drewN | apply below_drew1 | refine below_set ?_ (IsS71.ge HI130.out)) | exact HB.out)))); (case aL => have := LMc13.out; omega); intro v147 w16 ho hb hg hat; rw [← Ny146.out] at ho; have n0_ := Aside0.mk (IsS71.grown (by repeat (first | (with_reducible first | exact HI130.out | apply IsS71.alloc | apply IsS71.drewN | apply IsS71.drew | apply IsS71.set_1 | apply IsS71.set_2 | apply IsS71.set_3) | exact HI130.out)) hg (IsS71.own_ne HI130.out HO_7.out (by decide))); have n1_ := Aside0.mk (hb); have n2_ := Aside0.mk (ho); clear HI130; clear HB; clear HO_7; have HI130 := n0_; have HB := n1_; have HO148 := n2_; clear n0_ n1_ n2_; clear ho hb hg hat))
                  go_roundg k2
                  case measure => have := HJ2.out; have := HK2.out; omega
                  case rel => exact ⟨(y146), (wrap64 (x22_2 + 1)), (t142), (t143), (t144), (by first | rfl | (simp; done) | (simp [*]; done)), H', ⟨by have := HJ2.out; have := HK2.out; omega⟩, ⟨by (with_reducible repeat (first | apply Kd.R_alloc | apply Kd.R_drewN | apply Kd.R_drew)); exact HO148.out⟩, ⟨by repeat (first | (with_reducible first | exact HI130.out | apply IsS71.alloc | apply IsS71.drewN | apply IsS71.drew | apply IsS71.set_1 | apply IsS71.set_2 | apply IsS71.set_3) | exact HI130.out)⟩, ⟨by repeat (first | (with_reducible first | exact HB.out | apply below_alloc | apply pw_below_drewN | apply below_drew1 | refine below_set ?_ (IsS71.ge HI130.out)) | exact HB.out)⟩⟩
                · rw [if_neg c13] at H
                  exact absurd H (by simp)
              · rw [if_neg c11] at H
                have c11b0 : (t140 == 0) = false := beq_eq_false_iff_ne.mpr c11
                have c11b1 : (t140 != 0) = true := bne_iff_ne.mpr c11
                simp only [Option.some.injEq, Prod.mk.injEq] at H
                obtain ⟨rfl, rfl⟩ := H
                go_wp2_with (first | ((with_reducible refine gate_callee (f := 15) rfl ?_); refine goesL_ (some 25) rfl rfl Tryd.func15 (by kernel_rfl) rfl #[.pointer (some ⟨g130, 0, none⟩)] rfl (by (try simp only [List.map_toArray, List.map_cons, List.map_nil]); first | done | rfl | (simp only [List.length_drop, List.length_take]; rfl)) ?_; (with_reducible refine (num_Reader_Var.calls k2 g130 t126 x131001_2 x131002_2 x131003_2 t136 t137 t138 t139 w _ ?side1 ?side2 A9.out).mono ?_); (case side1 => repeat (first | (with_reducible first | exact HI130.out | apply IsS71.alloc | apply IsS71.drewN | apply IsS71.drew | apply IsS71.set_1 | apply IsS71.set_2 | apply IsS71.set_3) | exact HI130.out)); (case side2 => repeat (first | (with_reducible first | exact HB.out | apply below_alloc | apply pw_below_drewN | apply below_drew1 | refine below_set ?_ (IsS71.ge HI130.out)) | exact HB.out)); rintro e w17 ⟨rfl, hi, hb, hk⟩; refine ⟨_, rfl, ?_⟩; have n0_ := Aside0.mk (Kd.R_mono (Kd.R_keep (IsS71.apart (show IsS71 w _ g130 t126 x131001_2 x131002_2 x131003_2 from by repeat (first | (with_reducible first | exact HI130.out | apply IsS71.alloc | apply IsS71.drewN | apply IsS71.drew | apply IsS71.set_1 | apply IsS71.set_2 | apply IsS71.set_3) | exact HI130.out)) (by (with_reducible repeat (first | apply Kd.R_alloc | apply Kd.R_drewN | apply Kd.R_drew)); exact HO_7.out) (by decide)) hk (fun _ h => h.2)) (fun _ h => h.1)); have n1_ := Aside0.mk (hb); have n2_ := Aside0.mk (hi); clear HO_7; clear HB; clear HI130; have HO_7 := n0_; have HB := n1_; have HI130 := n2_; clear n0_ n1_ n2_; (try clear hb); (try clear hb2); (try clear hk); (try clear hi)) | ((with_reducible refine gate_callee (f := 16) rfl ?_); refine goesL_ (some 28) rfl rfl Tryd.func16 (by kernel_rfl) rfl #[.pointer (some ⟨g130, 0, none⟩)] rfl (by (try simp only [List.map_toArray, List.map_cons, List.map_nil]); first | done | rfl | (simp only [List.length_drop, List.length_take]; rfl)) ?_; (with_reducible refine (num_Reader_Err.calls g130 t126 t137 t138 t139 t140 t141 t142 t143 t144 w _ ?side1 ?side2 A10.out).mono ?_); (case side1 => repeat (first | (with_reducible first | exact HI130.out | apply IsS71.alloc | apply IsS71.drewN | apply IsS71.drew | apply IsS71.set_1 | apply IsS71.set_2 | apply IsS71.set_3) | exact HI130.out)); (case side2 => repeat (first | (with_reducible first | exact HB.out | apply below_alloc | apply pw_below_drewN | apply below_drew1 | refine below_set ?_ (IsS71.ge HI130.out)) | exact HB.out)); rintro e w18 ⟨rfl, hi, hb, hk⟩; refine ⟨_, rfl, ?_⟩; have n0_ := Aside0.mk (Kd.R_mono (Kd.R_keep (IsS71.apart (show IsS71 w _ g130 t126 t137 t138 t139 from by repeat (first | (with_reducible first | exact HI130.out | apply IsS71.alloc | apply IsS71.drewN | apply IsS71.drew | apply IsS71.set_1 | apply IsS71.set_2 | apply IsS71.set_3) | exact HI130.out)) (by (with_reducible repeat (first | apply Kd.R_alloc | apply Kd.R_drewN | apply Kd.R_drew)); exact HO_7.out) (by decide)) hk (fun _ h => h.2)) (fun _ h => h.1)); have n1_ := Aside0.mk (hb); have n2_ := Aside0.mk (hi); clear HO_7; clear HB; clear HI130; have HO_7 := n0_; have HB := n1_; have HI130 := n2_; clear n0_ n1_ n2_; (try clear hb); (try clear hb2); (try clear hk); (try clear hi)))
                go_ret2
                exact ⟨_, by first | rfl | (simp [errW_none, errW_some] <;> rfl) | (simp [*, errW_none, errW_some] <;> rfl), by first | exact Kd.R_nil _ _ _ _ _ | exact Kd.N_nil _ _ _ _ _ | exact Kd.V_nil _ _ _ _ _ | exact Kd.Q_nil _ _ _ _ _ | exact Kd.S_nil _ _ _ _ _, by repeat (first | (with_reducible first | exact HB.out | apply below_alloc | apply pw_below_drewN | apply below_drew1 | refine below_set ?_ (IsS71.ge HI130.out)) | exact HB.out)⟩
            · rw [if_neg c8] at H
              have c8b0 : decide (x22_2 < a1) = false := decide_eq_false c8
              clear c8
              replace H := Option.bind_eq_some_iff.mp H
              obtain ⟨⟨t131, t132, t133, t134, t135⟩, A190, H⟩ := H
              replace H : (if t131 = 0 then (some (x7_2, 0)) else (some (([] : List Int), t131))) = some (r1, r2) := H
              have A19 := Aside0.mk A190
              clear A190
              by_cases c20 : t131 = 0
              · rw [if_pos c20] at H
                have c20b0 : (t131 == 0) = true := beq_iff_eq.mpr c20
                have c20b1 : (t131 != 0) = false := bne_eq_false_iff_eq.mpr c20
                clear c20
                simp only [Option.some.injEq, Prod.mk.injEq] at H
                obtain ⟨rfl, rfl⟩ := H
                go_wp2_with (first | ((with_reducible refine gate_callee (f := 33) rfl ?_); refine goesL_ (some 42) rfl rfl Tryd.func33 (by kernel_rfl) rfl #[.pointer (some ⟨g130, 0, none⟩)] rfl (by (try simp only [List.map_toArray, List.map_cons, List.map_nil]); first | done | rfl | (simp only [List.length_drop, List.length_take]; rfl)) ?_; (with_reducible refine (num_Reader_End.calls g130 t126 x131001_2 x131002_2 x131003_2 t131 t132 t133 t134 t135 w _ ?side1 ?side2 A19.out).mono ?_); (case side1 => repeat (first | (with_reducible first | exact HI130.out | apply IsS71.alloc | apply IsS71.drewN | apply IsS71.drew | apply IsS71.set_1 | apply IsS71.set_2 | apply IsS71.set_3) | exact HI130.out)); (case side2 => repeat (first | (with_reducible first | exact HB.out | apply below_alloc | apply pw_below_drewN | apply below_drew1 | refine below_set ?_ (IsS71.ge HI130.out)) | exact HB.out)); rintro e w21 ⟨rfl, hi, hb, hk⟩; refine ⟨_, rfl, ?_⟩; have n0_ := Aside0.mk (Kd.R_mono (Kd.R_keep (IsS71.apart (show IsS71 w _ g130 t126 x131001_2 x131002_2 x131003_2 from by repeat (first | (with_reducible first | exact HI130.out | apply IsS71.alloc | apply IsS71.drewN | apply IsS71.drew | apply IsS71.set_1 | apply IsS71.set_2 | apply IsS71.set_3) | exact HI130.out)) (by (with_reducible repeat (first | apply Kd.R_alloc | apply Kd.R_drewN | apply Kd.R_drew)); exact HO_7.out) (by decide)) hk (fun _ h => h.2)) (fun _ h => h.1)); have n1_ := Aside0.mk (hb); have n2_ := Aside0.mk (hi); clear HO_7; clear HB; clear HI130; have HO_7 := n0_; have HB := n1_; have HI130 := n2_; clear n0_ n1_ n2_; (try clear hb); (try clear hb2); (try clear hk); (try clear hi)))
                go_ret2
                exact ⟨_, by first | rfl | (simp [errW_none, errW_some] <;> rfl) | (simp [*, errW_none, errW_some] <;> rfl), by (with_reducible repeat (first | apply Kd.R_alloc | apply Kd.R_drewN | apply Kd.R_drew)); exact HO_7.out, by repeat (first | (with_reducible first | exact HB.out | apply below_alloc | apply pw_below_drewN | apply below_drew1 | refine below_set ?_ (IsS71.ge HI130.out)) | exact HB.out)⟩
              · rw [if_neg c20] at H
                have c20b0 : (t131 == 0) = false := beq_eq_false_iff_ne.mpr c20
                have c20b1 : (t131 != 0) = true := bne_iff_ne.mpr c20
                simp only [Option.some.injEq, Prod.mk.injEq] at H
                obtain ⟨rfl, rfl⟩ := H
                go_wp2_with (first | ((with_reducible refine gate_callee (f := 33) rfl ?_); refine goesL_ (some 42) rfl rfl Tryd.func33 (by kernel_rfl) rfl #[.pointer (some ⟨g130, 0, none⟩)] rfl (by (try simp only [List.map_toArray, List.map_cons, List.map_nil]); first | done | rfl | (simp only [List.length_drop, List.length_take]; rfl)) ?_; (with_reducible refine (num_Reader_End.calls g130 t126 x131001_2 x131002_2 x131003_2 t131 t132 t133 t134 t135 w _ ?side1 ?side2 A19.out).mono ?_); (case side1 => repeat (first | (with_reducible first | exact HI130.out | apply IsS71.alloc | apply IsS71.drewN | apply IsS71.drew | apply IsS71.set_1 | apply IsS71.set_2 | apply IsS71.set_3) | exact HI130.out)); (case side2 => repeat (first | (with_reducible first | exact HB.out | apply below_alloc | apply pw_below_drewN | apply below_drew1 | refine below_set ?_ (IsS71.ge HI130.out)) | exact HB.out)); rintro e w22 ⟨rfl, hi, hb, hk⟩; refine ⟨_, rfl, ?_⟩; have n0_ := Aside0.mk (Kd.R_mono (Kd.R_keep (IsS71.apart (show IsS71 w _ g130 t126 x131001_2 x131002_2 x131003_2 from by repeat (first | (with_reducible first | exact HI130.out | apply IsS71.alloc | apply IsS71.drewN | apply IsS71.drew | apply IsS71.set_1 | apply IsS71.set_2 | apply IsS71.set_3) | exact HI130.out)) (by (with_reducible repeat (first | apply Kd.R_alloc | apply Kd.R_drewN | apply Kd.R_drew)); exact HO_7.out) (by decide)) hk (fun _ h => h.2)) (fun _ h => h.1)); have n1_ := Aside0.mk (hb); have n2_ := Aside0.mk (hi); clear HO_7; clear HB; clear HI130; have HO_7 := n0_; have HB := n1_; have HI130 := n2_; clear n0_ n1_ n2_; (try clear hb); (try clear hb2); (try clear hk); (try clear hi)))
                go_ret2
                exact ⟨_, by first | rfl | (simp [errW_none, errW_some] <;> rfl) | (simp [*, errW_none, errW_some] <;> rfl), by first | exact Kd.R_nil _ _ _ _ _ | exact Kd.N_nil _ _ _ _ _ | exact Kd.V_nil _ _ _ _ _ | exact Kd.Q_nil _ _ _ _ _ | exact Kd.S_nil _ _ _ _ _, by repeat (first | (with_reducible first | exact HB.out | apply below_alloc | apply pw_below_drewN | apply below_drew1 | refine below_set ?_ (IsS71.ge HI130.out)) | exact HB.out)⟩

/-- A state of type 47 at block g of W; what its slices lead to came in by w0. -/
def IsS47 (w0 W : World) (g : Nat) (f0 : List Int) (f1 : Int) (f2 : Int) (f3 : Int) : Prop := ∃ A0 c0, W.heap[g]? = some (.cells #[.slice A0 f0.length c0, .int .i64 f1, .int .i64 f2, .int .i64 f3] 47 (0, 0)) ∧ w0.heap.size ≤ g ∧ Kd.C (Kd.int .u8) w0 A0 f0.length f0 ∧ f0.length ≤ c0
theorem IsS47.grown {w0 W : World} {g : Nat} {f0 : List Int} {f1 : Int} {f2 : Int} {f3 : Int} {W1 : World} {row : Option Nat} (h : IsS47 w0 W g f0 f1 f2 f3) (hw : W.grownBy W1 row) (hne : some g ≠ row) : IsS47 w0 W1 g f0 f1 f2 f3 := by
  obtain ⟨A0, c0, hb, hg, hr0, hl0⟩ := h
  exact ⟨A0, c0, blk_grown hb hw hne, hg, hr0, hl0⟩
theorem IsS47.own_neN {w0 W : World} {g : Nat} {f0 : List Int} {f1 : Int} {f2 : Int} {f3 : Int} {α : Type} {d : Kd α} {e : Nat} {base : Nat} {ok : Nat → Prop} {v : Value} {xs : List α} (h : IsS47 w0 W g f0 f1 f2 f3) (ho : Kd.N d e W base ok v xs) (ht : e ≠ 47) : some g ≠ v.ownBlock := by
  obtain ⟨A0, c0, hb, hg, hr0, hl0⟩ := h
  exact Kd.N_ne ho hb ht
theorem IsS47.fresh {w0 W : World} {g : Nat} {f0 : List Int} {f1 : Int} {f2 : Int} {f3 : Int} (h : IsS47 w0 W g f0 f1 f2 f3) : ∀ k, W.heap.size ≤ k → k ≠ g := by
  obtain ⟨A0, c0, hb, hg, hr0, hl0⟩ := h
  exact Kd.freshB hb
theorem IsS47.kept {w0 W : World} {g : Nat} {f0 : List Int} {f1 : Int} {f2 : Int} {f3 : Int} {W1 : World} {S : Nat → Prop} (h : IsS47 w0 W g f0 f1 f2 f3) (hk : Kept W W1 S) (hne : ¬ S g) : IsS47 w0 W1 g f0 f1 f2 f3 := by
  obtain ⟨A0, c0, hb, hg, hr0, hl0⟩ := h
  exact ⟨A0, c0, blk_kept hb hk hne, hg, hr0, hl0⟩
theorem IsS47.below {w0 W : World} {g : Nat} {f0 : List Int} {f1 : Int} {f2 : Int} {f3 : Int} {W1 : World} (h : IsS47 w0 W g f0 f1 f2 f3) (hw : Below W.heap.size W W1) : IsS47 w0 W1 g f0 f1 f2 f3 := h.grown (grown_of_below hw none) (by simp)
theorem IsS47.alloc {w0 W : World} {g : Nat} {f0 : List Int} {f1 : Int} {f2 : Int} {f3 : Int} (h : IsS47 w0 W g f0 f1 f2 f3) (o : Obj) : IsS47 w0 (W.alloc o) g f0 f1 f2 f3 := h.below (below_alloc (Below.refl _ _) o)
theorem IsS47.drewN {w0 W : World} {g : Nat} {f0 : List Int} {f1 : Int} {f2 : Int} {f3 : Int} (h : IsS47 w0 W g f0 f1 f2 f3) (m : Nat) : IsS47 w0 (W.drewN m) g f0 f1 f2 f3 := h
theorem IsS47.drew {w0 W : World} {g : Nat} {f0 : List Int} {f1 : Int} {f2 : Int} {f3 : Int} (h : IsS47 w0 W g f0 f1 f2 f3) : IsS47 w0 W.drew g f0 f1 f2 f3 := h
theorem IsS47.at_ {w0 W : World} {g : Nat} {f0 : List Int} {f1 : Int} {f2 : Int} {f3 : Int} {w' : World} {m : Nat} (hq : W.drewN m = w') (h : IsS47 w0 W g f0 f1 f2 f3) : IsS47 w0 w' g f0 f1 f2 f3 := by subst hq; exact IsS47.drewN h m
theorem IsS47.apart {w0 W : World} {g : Nat} {f0 : List Int} {f1 : Int} {f2 : Int} {f3 : Int} {α : Type} {d : Kd α} {e : Nat} {base : Nat} {ok : Nat → Prop} {v : Value} {xs : List α} (h : IsS47 w0 W g f0 f1 f2 f3) (ho : d.R e W base ok v xs) (ht : ∀ q, q ∈ e :: d.E → q ≠ 47) : d.R e W base (fun k => ok k ∧ k ≠ g) v xs := by
  obtain ⟨A0, c0, hb, hg, hr0, hl0⟩ := h
  exact Kd.R_types ho hb ht
theorem IsS47.own_ne {w0 W : World} {g : Nat} {f0 : List Int} {f1 : Int} {f2 : Int} {f3 : Int} {α : Type} {d : Kd α} {e : Nat} {base : Nat} {ok : Nat → Prop} {v : Value} {xs : List α} (h : IsS47 w0 W g f0 f1 f2 f3) (ho : d.R e W base ok v xs) (ht : e ≠ 47) : some g ≠ v.ownBlock := by
  obtain ⟨A0, c0, hb, hg, hr0, hl0⟩ := h
  exact Kd.R_ne ho hb ht
theorem IsS47.apartQ {w0 W : World} {g : Nat} {f0 : List Int} {f1 : Int} {f2 : Int} {f3 : Int} {α : Type} {d : Kd α} {e : Nat} {base : Nat} {ok : Nat → Prop} {v : Value} {xs : List α} (h : IsS47 w0 W g f0 f1 f2 f3) (ho : d.Q e W base ok v xs) (ht : ∀ q, q ∈ e :: d.E → q ≠ 47) : d.Q e W base (fun k => ok k ∧ k ≠ g) v xs := by
  obtain ⟨A0, c0, hb, hg, hr0, hl0⟩ := h
  exact Kd.Q_types ho hb ht
theorem IsS47.own_neQ {w0 W : World} {g : Nat} {f0 : List Int} {f1 : Int} {f2 : Int} {f3 : Int} {α : Type} {d : Kd α} {e : Nat} {base : Nat} {ok : Nat → Prop} {v : Value} {xs : List α} (h : IsS47 w0 W g f0 f1 f2 f3) (ho : d.Q e W base ok v xs) (ht : e ≠ 47) : some g ≠ v.ownBlock := by
  obtain ⟨A0, c0, hb, hg, hr0, hl0⟩ := h
  exact Kd.Q_ne ho hb ht
theorem IsS47.apartS {w0 W : World} {g : Nat} {f0 : List Int} {f1 : Int} {f2 : Int} {f3 : Int} {α : Type} {d : Kd α} {e : Nat} {base : Nat} {ok : Nat → Prop} {v : Value} {xs : List α} (h : IsS47 w0 W g f0 f1 f2 f3) (ho : d.S e W base ok v xs) (ht : ∀ q, q ∈ e :: d.E → q ≠ 47) : d.S e W base (fun k => ok k ∧ k ≠ g) v xs := by
  obtain ⟨A0, c0, hb, hg, hr0, hl0⟩ := h
  exact Kd.S_types ho hb ht
theorem IsS47.own_neS {w0 W : World} {g : Nat} {f0 : List Int} {f1 : Int} {f2 : Int} {f3 : Int} {α : Type} {d : Kd α} {e : Nat} {base : Nat} {ok : Nat → Prop} {v : Value} {xs : List α} (h : IsS47 w0 W g f0 f1 f2 f3) (ho : d.S e W base ok v xs) (ht : e ≠ 47) : some g ≠ v.ownBlock := by
  obtain ⟨A0, c0, hb, hg, hr0, hl0⟩ := h
  exact Kd.S_ne ho hb ht
theorem IsS47.lt {w0 W : World} {g : Nat} {f0 : List Int} {f1 : Int} {f2 : Int} {f3 : Int} (h : IsS47 w0 W g f0 f1 f2 f3) : g < W.heap.size := by
  obtain ⟨A0, c0, hb, hg, hr0, hl0⟩ := h
  exact blk_lt hb
theorem IsS47.ge {w0 W : World} {g : Nat} {f0 : List Int} {f1 : Int} {f2 : Int} {f3 : Int} (h : IsS47 w0 W g f0 f1 f2 f3) : w0.heap.size ≤ g := by
  obtain ⟨A0, c0, hb, hg, hr0, hl0⟩ := h
  exact hg
theorem IsS47.ne_blk {w0 W : World} {g : Nat} {f0 : List Int} {f1 : Int} {f2 : Int} {f3 : Int} {a : Nat} {cs : Array Value} {t : TypeId} {fr : Nat × Nat} (h : IsS47 w0 W g f0 f1 f2 f3) (hb2 : W.heap[a]? = some (.cells cs t fr)) (ht : t ≠ 47) : g ≠ a := by
  obtain ⟨A0, c0, hb, hg, hr0, hl0⟩ := h
  rintro rfl
  rw [hb] at hb2
  injection hb2 with hb2
  injection hb2 with _ ht2
  exact ht ht2.symm
theorem IsS47.far {w0 W : World} {g : Nat} {f0 : List Int} {f1 : Int} {f2 : Int} {f3 : Int} {p : Addr} (h : IsS47 w0 W g f0 f1 f2 f3) (hne : g ≠ p.block) (u : Value) : IsS47 w0 (W.setCell p u) g f0 f1 f2 f3 := by
  obtain ⟨A0, c0, hb, hg, hr0, hl0⟩ := h
  exact ⟨A0, c0, blk_far hb hne u, hg, hr0, hl0⟩
theorem cellS47_0 {W : World} {g : Nat} {A0 : Option Addr} {c0 : Nat} {f0 : List Int} {f1 : Int} {f2 : Int} {f3 : Int} (h : W.heap[g]? = some (.cells #[.slice A0 f0.length c0, .int .i64 f1, .int .i64 f2, .int .i64 f3] 47 (0, 0))) : W.cell? ⟨g, 0, none⟩ = some (.slice A0 f0.length c0) := (blk_cell h 0).trans rfl
theorem cellS47_1 {W : World} {g : Nat} {A0 : Option Addr} {c0 : Nat} {f0 : List Int} {f1 : Int} {f2 : Int} {f3 : Int} (h : W.heap[g]? = some (.cells #[.slice A0 f0.length c0, .int .i64 f1, .int .i64 f2, .int .i64 f3] 47 (0, 0))) : W.cell? ⟨g, 1, none⟩ = some (.int .i64 f1) := (blk_cell h 1).trans rfl
theorem IsS47.set_1 {w0 W : World} {g : Nat} {f0 : List Int} {f1 : Int} {f2 : Int} {f3 : Int} (h : IsS47 w0 W g f0 f1 f2 f3) (x : Int) : IsS47 w0 (W.setCell ⟨g, 1, none⟩ (.int .i64 x)) g f0 x f2 f3 := by
  obtain ⟨A0, c0, hb, hg, hr0, hl0⟩ := h
  exact ⟨A0, c0, by simpa using blk_set hb 1 (.int .i64 x), hg, hr0, hl0⟩
theorem cellS47_2 {W : World} {g : Nat} {A0 : Option Addr} {c0 : Nat} {f0 : List Int} {f1 : Int} {f2 : Int} {f3 : Int} (h : W.heap[g]? = some (.cells #[.slice A0 f0.length c0, .int .i64 f1, .int .i64 f2, .int .i64 f3] 47 (0, 0))) : W.cell? ⟨g, 2, none⟩ = some (.int .i64 f2) := (blk_cell h 2).trans rfl
theorem IsS47.set_2 {w0 W : World} {g : Nat} {f0 : List Int} {f1 : Int} {f2 : Int} {f3 : Int} (h : IsS47 w0 W g f0 f1 f2 f3) (x : Int) : IsS47 w0 (W.setCell ⟨g, 2, none⟩ (.int .i64 x)) g f0 f1 x f3 := by
  obtain ⟨A0, c0, hb, hg, hr0, hl0⟩ := h
  exact ⟨A0, c0, by simpa using blk_set hb 2 (.int .i64 x), hg, hr0, hl0⟩
theorem cellS47_3 {W : World} {g : Nat} {A0 : Option Addr} {c0 : Nat} {f0 : List Int} {f1 : Int} {f2 : Int} {f3 : Int} (h : W.heap[g]? = some (.cells #[.slice A0 f0.length c0, .int .i64 f1, .int .i64 f2, .int .i64 f3] 47 (0, 0))) : W.cell? ⟨g, 3, none⟩ = some (.int .i64 f3) := (blk_cell h 3).trans rfl
theorem IsS47.set_3 {w0 W : World} {g : Nat} {f0 : List Int} {f1 : Int} {f2 : Int} {f3 : Int} (h : IsS47 w0 W g f0 f1 f2 f3) (x : Int) : IsS47 w0 (W.setCell ⟨g, 3, none⟩ (.int .i64 x)) g f0 f1 f2 x := by
  obtain ⟨A0, c0, hb, hg, hr0, hl0⟩ := h
  exact ⟨A0, c0, by simpa using blk_set hb 3 (.int .i64 x), hg, hr0, hl0⟩
theorem IsS47.new (w0 W : World) (A0 : Option Addr) (c0 : Nat) (f0 : List Int) (f1 : Int) (f2 : Int) (f3 : Int) (hB : Below w0.heap.size w0 W) (hr0 : Kd.C (Kd.int .u8) w0 A0 f0.length f0) (hl0 : f0.length ≤ c0) : IsS47 w0 (W.alloc (.cells #[.slice A0 f0.length c0, .int .i64 f1, .int .i64 f2, .int .i64 f3] 47)) W.heap.size f0 f1 f2 f3 := ⟨A0, c0, by simpa using heap_alloc_new W _, hB.size, hr0, hl0⟩

/-! ### estreatref01_Reader_Fail: function 32 -/
def estreatref01_Reader_Fail.f (s0_0 : List Int) (s0_1 : Int) (s0_2 : Int) (s0_3 : Int) (a1 : Int) : Option (Int × Int × Int) := if s0_2 = 0 then (if a1 = 0 then (some (s0_1, s0_2, s0_3)) else (some (s0_1, a1, s0_1))) else (some (s0_1, s0_2, s0_3))
set_option maxHeartbeats 8000000 in
set_option maxRecDepth 100000 in
theorem estreatref01_Reader_Fail.calls (g : Nat) (s0_0 : List Int) (s0_1 : Int) (s0_2 : Int) (s0_3 : Int) (a1 : Int) (r1 : Int) (r2 : Int) (r3 : Int) (w0 w : World) (hI : IsS47 w0 w g s0_0 s0_1 s0_2 s0_3) (hB : Below w0.heap.size w0 w) (h : estreatref01_Reader_Fail.f s0_0 s0_1 s0_2 s0_3 a1 = some (r1, r2, r3)) :
    Calls Tryd.prog 32 #[.pointer (some ⟨g, 0, none⟩), .int .i64 a1] w fun e w' => e = .returned (.tuple #[]) ∧ IsS47 w0 w' g s0_0 r1 r2 r3 ∧ Below w0.heap.size w0 w' ∧ KeepBut w w' g none := by
  have HI0 := Aside0.mk hI
  have HK := Aside0.mk (KeepBut.refl w g none)
  have HL := Aside0.mk hB.size
  clear hI
  have HW0 := Aside0.mk hB.size
  have HB := Aside0.mk hB
  clear hB
  have H : (if s0_2 = 0 then (if a1 = 0 then (some (s0_1, s0_2, s0_3)) else (some (s0_1, a1, s0_1))) else (some (s0_1, s0_2, s0_3))) = some (r1, r2, r3) := h
  clear h
  by_cases c3 : s0_2 = 0
  · rw [if_pos c3] at H
    have c3b0 : (s0_2 == 0) = true := beq_iff_eq.mpr c3
    have c3b1 : (s0_2 != 0) = false := bne_eq_false_iff_eq.mpr c3
    clear c3
    by_cases c4 : a1 = 0
    · rw [if_pos c4] at H
      have c4b0 : (a1 == 0) = true := beq_iff_eq.mpr c4
      have c4b1 : (a1 != 0) = false := bne_eq_false_iff_eq.mpr c4
      clear c4
      simp only [Option.some.injEq, Prod.mk.injEq] at H
      obtain ⟨rfl, rfl, rfl⟩ := H
      obtain ⟨ASz5_0, cSz5_0, HGz5, hgz5, HSz5_0⟩ := HI0.out
      have hcz5_0 := cellS47_0 HGz5
      have hcz5_1 := cellS47_1 HGz5
      have hcz5_2 := cellS47_2 HGz5
      have hcz5_3 := cellS47_3 HGz5
      have hfz5_1 := blk_frozen HGz5 1
      have hfz5_2 := blk_frozen HGz5 2
      have hfz5_3 := blk_frozen HGz5 3
      clear HGz5 hgz5
      go_enter Tryd.func32, Tryd.ntmps32
      go_wp2
      first | go_end0 | ((try simp only [Exit.inBlock, Exit.then]); refine bodyPost_ret (results_none rfl _ _ _) rfl ?_)
      exact ⟨by first | rfl | (simp [errW_none, errW_some] <;> rfl) | (simp [*, errW_none, errW_some] <;> rfl), by repeat (first | (with_reducible first | exact HI0.out | apply IsS47.alloc | apply IsS47.drewN | apply IsS47.drew | apply IsS47.set_1 | apply IsS47.set_2 | apply IsS47.set_3) | exact HI0.out), by repeat (first | (with_reducible first | exact HB.out | apply below_alloc | apply pw_below_drewN | apply below_drew1 | refine below_set ?_ (IsS47.ge HI0.out)) | exact HB.out), by repeat (first | (with_reducible first | exact HK.out | apply KeepBut.set_ | apply keep_drewN | apply keep_drew | apply keep_alloc) | exact HK.out)⟩
    · rw [if_neg c4] at H
      have c4b0 : (a1 == 0) = false := beq_eq_false_iff_ne.mpr c4
      have c4b1 : (a1 != 0) = true := bne_iff_ne.mpr c4
      simp only [Option.some.injEq, Prod.mk.injEq] at H
      obtain ⟨rfl, rfl, rfl⟩ := H
      obtain ⟨ASz6_0, cSz6_0, HGz6, hgz6, HSz6_0⟩ := HI0.out
      have hcz6_0 := cellS47_0 HGz6
      have hcz6_1 := cellS47_1 HGz6
      have hcz6_2 := cellS47_2 HGz6
      have hcz6_3 := cellS47_3 HGz6
      have hfz6_1 := blk_frozen HGz6 1
      have hfz6_2 := blk_frozen HGz6 2
      have hfz6_3 := blk_frozen HGz6 3
      clear HGz6 hgz6
      go_enter Tryd.func32, Tryd.ntmps32
      go_wp2
      first | go_end0 | ((try simp only [Exit.inBlock, Exit.then]); refine bodyPost_ret (results_none rfl _ _ _) rfl ?_)
      exact ⟨by first | rfl | (simp [errW_none, errW_some] <;> rfl) | (simp [*, errW_none, errW_some] <;> rfl), by repeat (first | (with_reducible first | exact HI0.out | apply IsS47.alloc | apply IsS47.drewN | apply IsS47.drew | apply IsS47.set_1 | apply IsS47.set_2 | apply IsS47.set_3) | exact HI0.out), by repeat (first | (with_reducible first | exact HB.out | apply below_alloc | apply pw_below_drewN | apply below_drew1 | refine below_set ?_ (IsS47.ge HI0.out)) | exact HB.out), by repeat (first | (with_reducible first | exact HK.out | apply KeepBut.set_ | apply keep_drewN | apply keep_drew | apply keep_alloc) | exact HK.out)⟩
  · rw [if_neg c3] at H
    have c3b0 : (s0_2 == 0) = false := beq_eq_false_iff_ne.mpr c3
    have c3b1 : (s0_2 != 0) = true := bne_iff_ne.mpr c3
    simp only [Option.some.injEq, Prod.mk.injEq] at H
    obtain ⟨rfl, rfl, rfl⟩ := H
    obtain ⟨ASz7_0, cSz7_0, HGz7, hgz7, HSz7_0⟩ := HI0.out
    have hcz7_0 := cellS47_0 HGz7
    have hcz7_1 := cellS47_1 HGz7
    have hcz7_2 := cellS47_2 HGz7
    have hcz7_3 := cellS47_3 HGz7
    have hfz7_1 := blk_frozen HGz7 1
    have hfz7_2 := blk_frozen HGz7 2
    have hfz7_3 := blk_frozen HGz7 3
    clear HGz7 hgz7
    go_enter Tryd.func32, Tryd.ntmps32
    go_wp2
    first | go_end0 | ((try simp only [Exit.inBlock, Exit.then]); refine bodyPost_ret (results_none rfl _ _ _) rfl ?_)
    exact ⟨by first | rfl | (simp [errW_none, errW_some] <;> rfl) | (simp [*, errW_none, errW_some] <;> rfl), by repeat (first | (with_reducible first | exact HI0.out | apply IsS47.alloc | apply IsS47.drewN | apply IsS47.drew | apply IsS47.set_1 | apply IsS47.set_2 | apply IsS47.set_3) | exact HI0.out), by repeat (first | (with_reducible first | exact HB.out | apply below_alloc | apply pw_below_drewN | apply below_drew1 | refine below_set ?_ (IsS47.ge HI0.out)) | exact HB.out), by repeat (first | (with_reducible first | exact HK.out | apply KeepBut.set_ | apply keep_drewN | apply keep_drew | apply keep_alloc) | exact HK.out)⟩

/-! ### estreatref01_look: function 52 -/
mutual
def estreatref01_look.l0 : Nat → List Int → Int → Int → Option (Int × Int × Int)
  | 0, _, _, _ => none
  | k + 1, x0, x5, x6 => if x6 < (x0.length : Int) then (if 0 ≤ x6 then (if x6 > 9 then (estreatref01_look.j1 k x0 x5 x6 (IntKind.u64.wrap (Int.tmod (rd x0 x6) 128)) true) else (if x6 = 9 then (if (IntKind.u64.wrap (Int.tmod (rd x0 x6) 128)) > 1 then (estreatref01_look.j1 k x0 x5 x6 (IntKind.u64.wrap (Int.tmod (rd x0 x6) 128)) true) else (if x6 > 0 then (estreatref01_look.j1 k x0 x5 x6 (IntKind.u64.wrap (Int.tmod (rd x0 x6) 128)) ((rd x0 x6) == 0)) else (estreatref01_look.j1 k x0 x5 x6 (IntKind.u64.wrap (Int.tmod (rd x0 x6) 128)) false))) else (if x6 > 0 then (estreatref01_look.j1 k x0 x5 x6 (IntKind.u64.wrap (Int.tmod (rd x0 x6) 128)) ((rd x0 x6) == 0)) else (estreatref01_look.j1 k x0 x5 x6 (IntKind.u64.wrap (Int.tmod (rd x0 x6) 128)) false)))) else (none)) else (some (0, 0, 2))
def estreatref01_look.j1 : Nat → List Int → Int → Int → Int → Bool → Option (Int × Int × Int)
  | 0, _, _, _, _, _ => none
  | k + 1, x0, x5, x6, x7, x42 => if x42 = true then (some (0, 0, 4)) else (estreatref01_look.l1 k x0 x5 x6 x7 1 0)
def estreatref01_look.l1 : Nat → List Int → Int → Int → Int → Int → Int → Option (Int × Int × Int)
  | 0, _, _, _, _, _, _ => none
  | k + 1, x0, x5, x6, x7, x8, x9 => if x9 < x6 then (estreatref01_look.l1 k x0 x5 x6 x7 (IntKind.u64.wrap (x8 * 128)) (wrap64 (x9 + 1))) else (if 0 ≤ x6 then (if x6 < (x0.length : Int) then (if (rd x0 x6) < 128 then (some (IntKind.u64.wrap (x5 + (IntKind.u64.wrap (x7 * x8))), wrap64 (x6 + 1), 0)) else (estreatref01_look.l0 k x0 (IntKind.u64.wrap (x5 + (IntKind.u64.wrap (x7 * x8)))) (wrap64 (x6 + 1)))) else (none)) else (none))
end
def estreatref01_look.f (k : Nat) (l0 : List Int) : Option (Int × Int × Int) := estreatref01_look.l0 k l0 0 0
theorem estreatref01_look.mono_l : ∀ k, (∀ y0 y1 y2, LeO (estreatref01_look.l0 k y0 y1 y2) (estreatref01_look.l0 (k + 1) y0 y1 y2)) ∧ (∀ y0 y1 y2 y3 y4, LeO (estreatref01_look.j1 k y0 y1 y2 y3 y4) (estreatref01_look.j1 (k + 1) y0 y1 y2 y3 y4)) ∧ (∀ y0 y1 y2 y3 y4 y5, LeO (estreatref01_look.l1 k y0 y1 y2 y3 y4 y5) (estreatref01_look.l1 (k + 1) y0 y1 y2 y3 y4 y5))
  | 0 => ⟨fun _ _ _ r h => by simp [estreatref01_look.l0] at h, fun _ _ _ _ _ r h => by simp [estreatref01_look.j1] at h, fun _ _ _ _ _ _ r h => by simp [estreatref01_look.l1] at h⟩
  | k + 1 => by
    obtain ⟨ih0, ih1, ih2⟩ := estreatref01_look.mono_l k
    refine ⟨?_, ?_, ?_⟩
    · intro y0 y1 y2
      unfold estreatref01_look.l0
      repeat' first
      | (with_reducible exact ih0 _ _ _)
      | (with_reducible exact ih1 _ _ _ _ _)
      | (with_reducible exact ih2 _ _ _ _ _ _)
      | (with_reducible exact LeO.refl _)
      | (with_reducible exact LeO.none _)
      | (with_reducible refine LeO.ite ?_ ?_)
      | (with_reducible refine LeO.bind ?_ (fun _ => ?_))
      | exact ih0 _ _ _
      | exact ih1 _ _ _ _ _
      | exact ih2 _ _ _ _ _ _
      | exact LeO.none _
      | refine LeO.ite ?_ ?_
      | refine LeO.bind ?_ (fun _ => ?_)
    · intro y0 y1 y2 y3 y4
      unfold estreatref01_look.j1
      repeat' first
      | (with_reducible exact ih0 _ _ _)
      | (with_reducible exact ih1 _ _ _ _ _)
      | (with_reducible exact ih2 _ _ _ _ _ _)
      | (with_reducible exact LeO.refl _)
      | (with_reducible exact LeO.none _)
      | (with_reducible refine LeO.ite ?_ ?_)
      | (with_reducible refine LeO.bind ?_ (fun _ => ?_))
      | exact ih0 _ _ _
      | exact ih1 _ _ _ _ _
      | exact ih2 _ _ _ _ _ _
      | exact LeO.none _
      | refine LeO.ite ?_ ?_
      | refine LeO.bind ?_ (fun _ => ?_)
    · intro y0 y1 y2 y3 y4 y5
      unfold estreatref01_look.l1
      repeat' first
      | (with_reducible exact ih0 _ _ _)
      | (with_reducible exact ih1 _ _ _ _ _)
      | (with_reducible exact ih2 _ _ _ _ _ _)
      | (with_reducible exact LeO.refl _)
      | (with_reducible exact LeO.none _)
      | (with_reducible refine LeO.ite ?_ ?_)
      | (with_reducible refine LeO.bind ?_ (fun _ => ?_))
      | exact ih0 _ _ _
      | exact ih1 _ _ _ _ _
      | exact ih2 _ _ _ _ _ _
      | exact LeO.none _
      | refine LeO.ite ?_ ?_
      | refine LeO.bind ?_ (fun _ => ?_)
theorem estreatref01_look.mono : ∀ a0 k, LeO (estreatref01_look.f k a0) (estreatref01_look.f (k + 1) a0) := by
  intro a0 k
  obtain ⟨ih0, ih1, ih2⟩ := estreatref01_look.mono_l k
  unfold estreatref01_look.f
  repeat' first
      | (with_reducible exact ih0 _ _ _)
      | (with_reducible exact ih1 _ _ _ _ _)
      | (with_reducible exact ih2 _ _ _ _ _ _)
      | (with_reducible exact LeO.refl _)
      | (with_reducible exact LeO.none _)
      | (with_reducible refine LeO.ite ?_ ?_)
      | (with_reducible refine LeO.bind ?_ (fun _ => ?_))
      | exact ih0 _ _ _
      | exact ih1 _ _ _ _ _
      | exact ih2 _ _ _ _ _ _
      | exact LeO.none _
      | refine LeO.ite ?_ ?_
      | refine LeO.bind ?_ (fun _ => ?_)
set_option maxHeartbeats 8000000 in
set_option maxRecDepth 100000 in
theorem estreatref01_look.calls (k : Nat) (A0 : Option Addr) (c0 : Nat) (l0 : List Int) (r1 : Int) (r2 : Int) (r3 : Int) (w : World) (hr0 : Kd.C (Kd.int .u8) w A0 l0.length l0) (hc0 : l0.length ≤ c0) (h : estreatref01_look.f k l0 = some (r1, r2, r3)) :
    Calls Tryd.prog 52 #[.slice A0 l0.length c0] w fun e w' => e = .returned (.tuple #[.int .u64 r1, .int .i64 r2, .int .i64 r3]) ∧ Drawn0 w w' := by
  have HR0 := Aside0.mk hr0
  have HC0 := Aside0.mk hc0
  clear hr0 hc0
  have H : (estreatref01_look.l0 k l0 0 0) = some (r1, r2, r3) := h
  clear h
  have H' := Aside0.mk H
  clear H
  go_enter Tryd.func52, Tryd.ntmps52
  go_wp2
  go_loopg [5, 6] k (fun kq v5 v6 w' => ∃ (x5_1 : Int) (x6_1 : Int), v5 = .int .u64 x5_1 ∧ v6 = .int .i64 x6_1 ∧ Aside0 (estreatref01_look.l0 kq l0 x5_1 x6_1 = some (r1, r2, r3)) ∧ Aside0 (kq ≤ k) ∧ Drawn0 w w')
  case atStart => exact ⟨(0), (0), (by first | rfl | (simp; done) | (simp [*]; done)), (by first | rfl | (simp; done) | (simp [*]; done)), H', ⟨Nat.le_refl _⟩, by repeat (first | exact Drawn0.refl _ | apply Drawn0.step)⟩
  case round =>
    clear H'
    obtain ⟨x5_1, x6_1, rfl, rfl, HA, HK1, ⟨m1, rfl⟩⟩ := hrel
    cases gk with
    | zero => exact absurd HA.out (by simp [estreatref01_look.l0])
    | succ k1 =>
      have H := HA.out
      clear HA
      simp only [estreatref01_look.l0] at H
      by_cases c2 : x6_1 < (l0.length : Int)
      · rw [if_pos c2] at H
        have c2b0 : decide (x6_1 < (l0.length : Int)) = true := decide_eq_true c2
        clear c2
        by_cases c3 : 0 ≤ x6_1
        · rw [if_pos c3] at H
          have c3b0 : decide (0 ≤ x6_1) = true := decide_eq_true c3
          clear c3
          have HC4 := Aside0.mk H
          clear H
          have p149 : 0 ≤ (x6_1 : Int) := of_decide_eq_true (by first | (with_reducible assumption) | assumption)
          have q149 : x6_1 < (l0.length : Int) := of_decide_eq_true (by first | (with_reducible assumption) | assumption)
          obtain ⟨ad149, e149, hx149_0⟩ := Kd.at_int HR0.out x6_1 p149 q149
          cases e149
          replace p149 := eq_true p149
          replace q149 := eq_true q149
          go_upto_region 6 with (fail)
          go_cut [42] (fun v42 wc => ∃ (kq : Nat) (x42_3 : Bool), v42 = .bool x42_3 ∧ Aside0 (estreatref01_look.j1 kq l0 x5_1 x6_1 (IntKind.u64.wrap (Int.tmod (rd l0 x6_1) 128)) x42_3 = some (r1, r2, r3)) ∧ Aside0 (kq ≤ k1) ∧ Drawn0 w wc)
          case first =>
            have H := HC4.out
            clear HC4
            by_cases c5 : x6_1 > 9
            · rw [if_pos c5] at H
              have c5b0 : decide (9 < x6_1) = true := decide_eq_true c5
              clear c5
              (first | rw [c5b0] | (simp only [i64_w, i32_w]; rw [c5b0]) | skip)
              have H' := Aside0.mk H
              clear H
              go_wp2
              go_meet
              case rel => exact ⟨_, (true), (by first | rfl | (simp; done) | (simp [*]; done)), H', ⟨by have := HK1.out; first | omega | exact Nat.le_refl _⟩, by repeat (first | exact Drawn0.refl _ | apply Drawn0.step)⟩
            · rw [if_neg c5] at H
              have c5b0 : decide (9 < x6_1) = false := decide_eq_false c5
              clear c5
              (first | rw [c5b0] | (simp only [i64_w, i32_w]; rw [c5b0]) | skip)
              by_cases c6 : x6_1 = 9
              · rw [if_pos c6] at H
                have c6b0 : (x6_1 == 9) = true := beq_iff_eq.mpr c6
                have c6b1 : (x6_1 != 9) = false := bne_eq_false_iff_eq.mpr c6
                clear c6
                by_cases c7 : (IntKind.u64.wrap (Int.tmod (rd l0 x6_1) 128)) > 1
                · rw [if_pos c7] at H
                  have c7b0 : decide (1 < (IntKind.u64.wrap (Int.tmod (rd l0 x6_1) 128))) = true := decide_eq_true c7
                  clear c7
                  have H' := Aside0.mk H
                  clear H
                  go_wp2
                  go_meet
                  case rel => exact ⟨_, (true), (by first | rfl | (simp; done) | (simp [*]; done)), H', ⟨by have := HK1.out; first | omega | exact Nat.le_refl _⟩, by repeat (first | exact Drawn0.refl _ | apply Drawn0.step)⟩
                · rw [if_neg c7] at H
                  have c7b0 : decide (1 < (IntKind.u64.wrap (Int.tmod (rd l0 x6_1) 128))) = false := decide_eq_false c7
                  clear c7
                  by_cases c8 : x6_1 > 0
                  · rw [if_pos c8] at H
                    have c8b0 : decide (0 < x6_1) = true := decide_eq_true c8
                    clear c8
                    have H' := Aside0.mk H
                    clear H
                    have p150 : 0 ≤ (x6_1 : Int) := of_decide_eq_true (by first | (with_reducible assumption) | assumption)
                    have q150 : x6_1 < (l0.length : Int) := of_decide_eq_true (by first | (with_reducible assumption) | assumption)
                    obtain ⟨ad150, e150, hx150_0⟩ := Kd.at_int HR0.out x6_1 p150 q150
                    obtain rfl : ad149 = ad150 := (by injection e150)
                    replace p150 := eq_true p150
                    replace q150 := eq_true q150
                    go_wp2
                    go_meet
                    case rel => exact ⟨_, (((rd l0 x6_1) == 0)), (by first | rfl | (simp; done) | (simp [*]; done)), H', ⟨by have := HK1.out; first | omega | exact Nat.le_refl _⟩, by repeat (first | exact Drawn0.refl _ | apply Drawn0.step)⟩
                  · rw [if_neg c8] at H
                    have c8b0 : decide (0 < x6_1) = false := decide_eq_false c8
                    clear c8
                    have H' := Aside0.mk H
                    clear H
                    go_wp2
                    go_meet
                    case rel => exact ⟨_, (false), (by first | rfl | (simp; done) | (simp [*]; done)), H', ⟨by have := HK1.out; first | omega | exact Nat.le_refl _⟩, by repeat (first | exact Drawn0.refl _ | apply Drawn0.step)⟩
              · rw [if_neg c6] at H
                have c6b0 : (x6_1 == 9) = false := beq_eq_false_iff_ne.mpr c6
                have c6b1 : (x6_1 != 9) = true := bne_iff_ne.mpr c6
                by_cases c9 : x6_1 > 0
                · rw [if_pos c9] at H
                  have c9b0 : decide (0 < x6_1) = true := decide_eq_true c9
                  clear c9
                  have H' := Aside0.mk H
                  clear H
                  have p151 : 0 ≤ (x6_1 : Int) := of_decide_eq_true (by first | (with_reducible assumption) | assumption)
                  have q151 : x6_1 < (l0.length : Int) := of_decide_eq_true (by first | (with_reducible assumption) | assumption)
                  obtain ⟨ad151, e151, hx151_0⟩ := Kd.at_int HR0.out x6_1 p151 q151
                  obtain rfl : ad149 = ad151 := (by injection e151)
                  replace p151 := eq_true p151
                  replace q151 := eq_true q151
                  go_wp2
                  go_meet
                  case rel => exact ⟨_, (((rd l0 x6_1) == 0)), (by first | rfl | (simp; done) | (simp [*]; done)), H', ⟨by have := HK1.out; first | omega | exact Nat.le_refl _⟩, by repeat (first | exact Drawn0.refl _ | apply Drawn0.step)⟩
                · rw [if_neg c9] at H
                  have c9b0 : decide (0 < x6_1) = false := decide_eq_false c9
                  clear c9
                  have H' := Aside0.mk H
                  clear H
                  go_wp2
                  go_meet
                  case rel => exact ⟨_, (false), (by first | rfl | (simp; done) | (simp [*]; done)), H', ⟨by have := HK1.out; first | omega | exact Nat.le_refl _⟩, by repeat (first | exact Drawn0.refl _ | apply Drawn0.step)⟩
          case rest =>
            clear HC4
            try clear p1
            try clear q1
            try clear hx1
            try clear c2
            try clear c2b0
            try clear p2
            try clear c3
            try clear c3b0
            try clear c5
            try clear c5b0
            try clear c6
            try clear c6b0
            try clear c6b1
            try clear c7
            try clear c7b0
            try clear c8
            try clear c8b0
            try clear c9
            try clear c9b0
            try clear hx149_0
            try clear hx150_0
            try clear hx151_0
            try clear p149
            try clear p150
            try clear p151
            try clear q149
            try clear q150
            try clear q151
            obtain ⟨kq, x42_3, rfl, HA, HJ3, ⟨mc3, rfl⟩⟩ := hcut
            cases kq with
            | zero => exact absurd HA.out (by simp [estreatref01_look.j1])
            | succ kj3 =>
              have H := HA.out
              clear HA
              simp only [estreatref01_look.j1] at H
              by_cases c10 : x42_3 = true
              · subst c10
                have H1 : (some (0, 0, 4)) = some (r1, r2, r3) := by rw [if_pos rfl] at H; exact H
                clear H
                have H := H1
                clear H1
                simp only [Option.some.injEq, Prod.mk.injEq] at H
                obtain ⟨rfl, rfl, rfl⟩ := H
                go_wp2
                go_ret3
                exact ⟨by first | rfl | (simp; done) | (simp [*]; done), by repeat (first | exact Drawn0.refl _ | apply Drawn0.step)⟩
              · replace c10 := Bool.eq_false_iff.mpr c10
                subst c10
                have H1 : (estreatref01_look.l1 kj3 l0 x5_1 x6_1 (IntKind.u64.wrap (Int.tmod (rd l0 x6_1) 128)) 1 0) = some (r1, r2, r3) := by rw [if_neg (show ¬ (false = true) by decide)] at H; exact H
                clear H
                have H := H1
                clear H1
                have H' := Aside0.mk H
                clear H
                go_wp2
                go_loopg [8, 9] kj3 (fun kq v8 v9 w' => ∃ (x8_3 : Int) (x9_3 : Int), v8 = .int .u64 x8_3 ∧ v9 = .int .i64 x9_3 ∧ Aside0 (estreatref01_look.l1 kq l0 x5_1 x6_1 (IntKind.u64.wrap (Int.tmod (rd l0 x6_1) 128)) x8_3 x9_3 = some (r1, r2, r3)) ∧ Aside0 (kq ≤ kj3) ∧ Drawn0 w w')
                case atStart => exact ⟨(1), (0), (by first | rfl | (simp; done) | (simp [*]; done)), (by first | rfl | (simp; done) | (simp [*]; done)), H', ⟨Nat.le_refl _⟩, by repeat (first | exact Drawn0.refl _ | apply Drawn0.step)⟩
                case round =>
                  clear H'
                  try clear c1
                  try clear p1
                  try clear q1
                  try clear hx1
                  try clear c2
                  try clear c2b0
                  try clear p2
                  try clear c3
                  try clear c3b0
                  try clear c5
                  try clear c5b0
                  try clear c6
                  try clear c6b0
                  try clear c6b1
                  try clear c7
                  try clear c7b0
                  try clear c8
                  try clear c8b0
                  try clear c9
                  try clear c9b0
                  try clear c10
                  try clear hx149_0
                  try clear hx150_0
                  try clear hx151_0
                  try clear p1
                  try clear p149
                  try clear p150
                  try clear p151
                  try clear p2
                  try clear q1
                  try clear q149
                  try clear q150
                  try clear q151
                  obtain ⟨x8_3, x9_3, rfl, rfl, HA, HK3, ⟨m3, rfl⟩⟩ := hrel
                  cases gk with
                  | zero => exact absurd HA.out (by simp [estreatref01_look.l1])
                  | succ k3 =>
                    have H := HA.out
                    clear HA
                    simp only [estreatref01_look.l1] at H
                    by_cases c11 : x9_3 < x6_1
                    · rw [if_pos c11] at H
                      have c11b0 : decide (x9_3 < x6_1) = true := decide_eq_true c11
                      clear c11
                      have H' := Aside0.mk H
                      clear H
                      go_wp2
                      go_roundg k3
                      case measure => have := HK1.out; have := HJ3.out; have := HK3.out; omega
                      case rel => exact ⟨(IntKind.u64.wrap (x8_3 * 128)), (wrap64 (x9_3 + 1)), (by first | rfl | (simp; done) | (simp [*]; done)), (by first | rfl | (simp; done) | (simp [*]; done)), H', ⟨by have := HK1.out; have := HJ3.out; have := HK3.out; omega⟩, by repeat (first | exact Drawn0.refl _ | apply Drawn0.step)⟩
                    · rw [if_neg c11] at H
                      have c11b0 : decide (x9_3 < x6_1) = false := decide_eq_false c11
                      clear c11
                      by_cases c12 : 0 ≤ x6_1
                      · rw [if_pos c12] at H
                        have c12b0 : decide (0 ≤ x6_1) = true := decide_eq_true c12
                        clear c12
                        by_cases c13 : x6_1 < (l0.length : Int)
                        · rw [if_pos c13] at H
                          have c13b0 : decide (x6_1 < (l0.length : Int)) = true := decide_eq_true c13
                          clear c13
                          by_cases c14 : (rd l0 x6_1) < 128
                          · rw [if_pos c14] at H
                            have c14b0 : decide ((rd l0 x6_1) < 128) = true := decide_eq_true c14
                            clear c14
                            simp only [Option.some.injEq, Prod.mk.injEq] at H
                            obtain ⟨rfl, rfl, rfl⟩ := H
                            have p152 : 0 ≤ (x6_1 : Int) := of_decide_eq_true (by first | (with_reducible assumption) | assumption)
                            have q152 : x6_1 < (l0.length : Int) := of_decide_eq_true (by first | (with_reducible assumption) | assumption)
                            obtain ⟨ad152, e152, hx152_0⟩ := Kd.at_int HR0.out x6_1 p152 q152
                            obtain rfl : ad149 = ad152 := (by injection e152)
                            replace p152 := eq_true p152
                            replace q152 := eq_true q152
                            go_wp2
                            go_ret3
                            exact ⟨by first | rfl | (simp; done) | (simp [*]; done), by repeat (first | exact Drawn0.refl _ | apply Drawn0.step)⟩
                          · rw [if_neg c14] at H
                            have c14b0 : decide ((rd l0 x6_1) < 128) = false := decide_eq_false c14
                            clear c14
                            have H' := Aside0.mk H
                            clear H
                            have p152 : 0 ≤ (x6_1 : Int) := of_decide_eq_true (by first | (with_reducible assumption) | assumption)
                            have q152 : x6_1 < (l0.length : Int) := of_decide_eq_true (by first | (with_reducible assumption) | assumption)
                            obtain ⟨ad152, e152, hx152_0⟩ := Kd.at_int HR0.out x6_1 p152 q152
                            obtain rfl : ad149 = ad152 := (by injection e152)
                            replace p152 := eq_true p152
                            replace q152 := eq_true q152
                            go_wp2
                            go_roundg k3
                            case measure => have := HK1.out; have := HJ3.out; have := HK3.out; omega
                            case rel => exact ⟨(IntKind.u64.wrap (x5_1 + (IntKind.u64.wrap ((IntKind.u64.wrap (Int.tmod (rd l0 x6_1) 128)) * x8_3)))), (wrap64 (x6_1 + 1)), (by first | rfl | (simp; done) | (simp [*]; done)), (by first | rfl | (simp; done) | (simp [*]; done)), H', ⟨by have := HK1.out; have := HJ3.out; have := HK3.out; omega⟩, by repeat (first | exact Drawn0.refl _ | apply Drawn0.step)⟩
                        · rw [if_neg c13] at H
                          exact absurd H (by simp)
                      · rw [if_neg c12] at H
                        exact absurd H (by simp)
        · rw [if_neg c3] at H
          exact absurd H (by simp)
      · rw [if_neg c2] at H
        have c2b0 : decide (x6_1 < (l0.length : Int)) = false := decide_eq_false c2
        clear c2
        simp only [Option.some.injEq, Prod.mk.injEq] at H
        obtain ⟨rfl, rfl, rfl⟩ := H
        go_wp2
        go_ret3
        exact ⟨by first | rfl | (simp; done) | (simp [*]; done), by repeat (first | exact Drawn0.refl _ | apply Drawn0.step)⟩

/-! ### estreatref01_Reader_Var: function 28 -/
def estreatref01_Reader_Var.f (k : Nat) (s0_0 : List Int) (s0_1 : Int) (s0_2 : Int) (s0_3 : Int) : Option (Int × Int × Int × Int) :=
  if s0_2 ≠ 0 then some (0, s0_1, s0_2, s0_3)
  else if 0 ≤ s0_1 ∧ s0_1 ≤ (s0_0.length : Int) then
    (estreatref01_look.f k (s0_0.drop s0_1.toNat)).bind fun t => (estreatref01_Reader_Fail.f s0_0 s0_1 s0_2 s0_3 t.2.2).bind fun u => some (t.1, wrap64 (u.1 + t.2.1), u.2.1, u.2.2)
  else none
theorem estreatref01_Reader_Var.mono : ∀ s0_0 s0_1 s0_2 s0_3 k, LeO (estreatref01_Reader_Var.f k s0_0 s0_1 s0_2 s0_3) (estreatref01_Reader_Var.f (k + 1) s0_0 s0_1 s0_2 s0_3) := by
  intro s0 s1 s2 s3 k r h
  unfold estreatref01_Reader_Var.f at h ⊢
  by_cases h0 : s2 ≠ 0
  · rw [if_pos h0] at h ⊢; exact h
  · rw [if_neg h0] at h ⊢
    by_cases h1 : 0 ≤ s1 ∧ s1 ≤ (s0.length : Int)
    · rw [if_pos h1] at h ⊢
      obtain ⟨t, ht, h⟩ := Option.bind_eq_some_iff.mp h
      rw [estreatref01_look.mono _ k _ ht, Option.bind_some]; exact h
    · rw [if_neg h1] at h; cases h
set_option maxRecDepth 100000 in
set_option maxHeartbeats 8000000 in
theorem estreatref01_Reader_Var.calls (k : Nat) (g : Nat) (s0_0 : List Int) (s0_1 : Int) (s0_2 : Int) (s0_3 : Int) (r1 : Int) (r2 : Int) (r3 : Int) (r4 : Int) (w0 w : World) (hI : IsS47 w0 w g s0_0 s0_1 s0_2 s0_3) (hB : Below w0.heap.size w0 w) (h : estreatref01_Reader_Var.f k s0_0 s0_1 s0_2 s0_3 = some (r1, r2, r3, r4)) :
    Calls Tryd.prog 28 #[.pointer (some ⟨g, 0, none⟩)] w fun e w' => e = .returned (.int .u64 r1) ∧ IsS47 w0 w' g s0_0 r2 r3 r4 ∧ Below w0.heap.size w0 w' ∧ KeepBut w w' g none := by
  unfold estreatref01_Reader_Var.f at h
  have hI0 := hI
  obtain ⟨A1, c1, hb, _, hC0, hcc⟩ := hI
  have hI := hI0
  have hc0 := cellS47_0 hb
  have hc1 := cellS47_1 hb
  have hc2 := cellS47_2 hb
  have hfz := fun j => blk_frozen hb j
  have hg := hI.ge
  by_cases h0 : s0_2 ≠ 0
  · rw [if_pos h0] at h
    simp only [Option.some.injEq, Prod.mk.injEq] at h
    obtain ⟨rfl, rfl, rfl, rfl⟩ := h
    have d0 : (s0_2 != 0) = true := bne_iff_ne.mpr h0
    go_enter Tryd.func28, Tryd.ntmps28
    go_wp2
    go_ret
    exact ⟨rfl, hI0, hB, KeepBut.refl _ _ _⟩
  rw [if_neg h0] at h
  by_cases hb0 : 0 ≤ s0_1 ∧ s0_1 ≤ (s0_0.length : Int)
  case neg => rw [if_neg hb0] at h; cases h
  rw [if_pos hb0] at h
  obtain ⟨⟨t1, t2, t3⟩, ht, h⟩ := Option.bind_eq_some_iff.mp h
  obtain ⟨⟨u1, u2, u3⟩, hu, h⟩ := Option.bind_eq_some_iff.mp h
  simp only [Option.some.injEq, Prod.mk.injEq] at h
  obtain ⟨rfl, rfl, rfl, rfl⟩ := h
  obtain ⟨hb1, hb2⟩ := hb0
  have h0 : s0_2 = 0 := by simpa using h0
  subst h0
  have hC := Kd.C_below hC0 hB
  have hmid := Kd.C_drop (m := s0_1.toNat) hC (by omega) hcc
  have hmid : (Kd.int .u8).C w (if c1 = s0_1.toNat then A1 else A1.map (fun x => x.add s0_1.toNat)) (s0_0.drop s0_1.toNat).length (s0_0.drop s0_1.toNat) := by simpa [Kd.int, Kd.scalar] using hmid
  have hst : s0_0.length - s0_1.toNat = (s0_0.drop s0_1.toNat).length := by rw [List.length_drop]
  have hle : (s0_0.drop s0_1.toNat).length ≤ c1 - s0_1.toNat := by omega
  have hl5 : s0_1 ≤ (c1 : Int) := by omega
  have hKC : (Kd.int .u8).C w.drew (if c1 = s0_1.toNat then A1 else A1.map (fun x => x.add s0_1.toNat)) (s0_0.drop s0_1.toNat).length (s0_0.drop s0_1.toNat) := Kd.C_below hmid (below_drew1 (Below.refl _ _))
  have hLK := fun (A0 : Option Addr) (c0 : Nat) (W : World) h1 h2 => estreatref01_look.calls k A0 c0 (s0_0.drop s0_1.toNat) t1 t2 t3 W h1 h2 ht
  generalize hL : s0_0.drop s0_1.toNat = l1 at *
  clear hmid hL ht hC hC0 hb
  by_cases hcs : c1 = s0_1.toNat
  case' pos => rw [if_pos hcs] at hKC; subst hcs
  case' neg => rw [if_neg hcs] at hKC
  all_goals
    go_enter Tryd.func28, Tryd.ntmps28
    go_wp2
    go_region_with (go_at_call 52; refine (hLK _ _ _ hKC (by omega)).mono ?_; rintro e w2 ⟨rfl, ⟨m, rfl⟩⟩)
    all_goals
      go_wp2_with (go_at_call 32; refine (estreatref01_Reader_Fail.calls g _ _ _ _ t3 u1 u2 u3 w0 _ (by repeat (first | exact hI0 | apply IsS47.drewN | apply IsS47.drew)) (by repeat (first | exact hB | apply pw_below_drewN | apply below_drew1)) hu).mono ?_; rintro e w3 ⟨rfl, hI3, hB3, hK3⟩; obtain ⟨A3, c3, hb3, _, _, _⟩ := id hI3; have hc30 := cellS47_0 hb3; have hc31 := cellS47_1 hb3; have hfz3 := fun j => blk_frozen hb3 j)
      go_ret
      exact ⟨rfl, hI3.set_1 _, hB3.setCell (p := ⟨g, 1, none⟩) hg _, KeepBut.set_ (KeepBut.trans (by repeat (first | exact KeepBut.refl _ _ _ | apply keep_drewN | apply keep_drew)) hK3 (.inl rfl)) _ _⟩

/-! ### estreatref01_Reader_End: function 34 -/
def estreatref01_Reader_End.f (s0_0 : List Int) (s0_1 : Int) (s0_2 : Int) (s0_3 : Int) : Option (Int × Int × Int × Int × Int) := if s0_2 = 0 then (if s0_1 < (s0_0.length : Int) then (some (3, s0_1, s0_1, s0_2, s0_3)) else (some (s0_2, s0_3, s0_1, s0_2, s0_3))) else (some (s0_2, s0_3, s0_1, s0_2, s0_3))
set_option maxHeartbeats 8000000 in
set_option maxRecDepth 100000 in
theorem estreatref01_Reader_End.calls (g : Nat) (s0_0 : List Int) (s0_1 : Int) (s0_2 : Int) (s0_3 : Int) (r1 : Int) (r2 : Int) (r3 : Int) (r4 : Int) (r5 : Int) (w0 w : World) (hI : IsS47 w0 w g s0_0 s0_1 s0_2 s0_3) (hB : Below w0.heap.size w0 w) (h : estreatref01_Reader_End.f s0_0 s0_1 s0_2 s0_3 = some (r1, r2, r3, r4, r5)) :
    Calls Tryd.prog 34 #[.pointer (some ⟨g, 0, none⟩)] w fun e w' => e = .returned (.tuple #[.int .i64 r1, .int .i64 r2]) ∧ IsS47 w0 w' g s0_0 r3 r4 r5 ∧ Below w0.heap.size w0 w' ∧ KeepBut w w' g none := by
  have HI0 := Aside0.mk hI
  have HK := Aside0.mk (KeepBut.refl w g none)
  have HL := Aside0.mk hB.size
  clear hI
  have HW0 := Aside0.mk hB.size
  have HB := Aside0.mk hB
  clear hB
  have H : (if s0_2 = 0 then (if s0_1 < (s0_0.length : Int) then (some (3, s0_1, s0_1, s0_2, s0_3)) else (some (s0_2, s0_3, s0_1, s0_2, s0_3))) else (some (s0_2, s0_3, s0_1, s0_2, s0_3))) = some (r1, r2, r3, r4, r5) := h
  clear h
  by_cases c2 : s0_2 = 0
  · rw [if_pos c2] at H
    have c2b0 : (s0_2 == 0) = true := beq_iff_eq.mpr c2
    have c2b1 : (s0_2 != 0) = false := bne_eq_false_iff_eq.mpr c2
    clear c2
    by_cases c3 : s0_1 < (s0_0.length : Int)
    · rw [if_pos c3] at H
      have c3b0 : decide (s0_1 < (s0_0.length : Int)) = true := decide_eq_true c3
      clear c3
      simp only [Option.some.injEq, Prod.mk.injEq] at H
      obtain ⟨rfl, rfl, rfl, rfl, rfl⟩ := H
      obtain ⟨ASz4_0, cSz4_0, HGz4, hgz4, HSz4_0⟩ := HI0.out
      have hcz4_0 := cellS47_0 HGz4
      have hcz4_1 := cellS47_1 HGz4
      have hcz4_2 := cellS47_2 HGz4
      have hcz4_3 := cellS47_3 HGz4
      have hfz4_1 := blk_frozen HGz4 1
      have hfz4_2 := blk_frozen HGz4 2
      have hfz4_3 := blk_frozen HGz4 3
      clear HGz4 hgz4
      go_enter Tryd.func34, Tryd.ntmps34
      go_wp2
      repeat (go_quiet (fail); try go_wp2)
      go_ret2
      exact ⟨by first | rfl | (simp [errW_none, errW_some] <;> rfl) | (simp [*, errW_none, errW_some] <;> rfl), by repeat (first | (with_reducible first | exact HI0.out | apply IsS47.alloc | apply IsS47.drewN | apply IsS47.drew | apply IsS47.set_1 | apply IsS47.set_2 | apply IsS47.set_3) | exact HI0.out), by repeat (first | (with_reducible first | exact HB.out | apply below_alloc | apply pw_below_drewN | apply below_drew1 | refine below_set ?_ (IsS47.ge HI0.out)) | exact HB.out), by repeat (first | (with_reducible first | exact HK.out | apply KeepBut.set_ | apply keep_drewN | apply keep_drew | apply keep_alloc) | exact HK.out)⟩
    · rw [if_neg c3] at H
      have c3b0 : decide (s0_1 < (s0_0.length : Int)) = false := decide_eq_false c3
      clear c3
      simp only [Option.some.injEq, Prod.mk.injEq] at H
      obtain ⟨rfl, rfl, rfl, rfl, rfl⟩ := H
      obtain ⟨ASz5_0, cSz5_0, HGz5, hgz5, HSz5_0⟩ := HI0.out
      have hcz5_0 := cellS47_0 HGz5
      have hcz5_1 := cellS47_1 HGz5
      have hcz5_2 := cellS47_2 HGz5
      have hcz5_3 := cellS47_3 HGz5
      have hfz5_1 := blk_frozen HGz5 1
      have hfz5_2 := blk_frozen HGz5 2
      have hfz5_3 := blk_frozen HGz5 3
      clear HGz5 hgz5
      go_enter Tryd.func34, Tryd.ntmps34
      go_wp2
      repeat (go_quiet (fail); try go_wp2)
      go_ret2
      exact ⟨by first | rfl | (simp [errW_none, errW_some] <;> rfl) | (simp [*, errW_none, errW_some] <;> rfl), by repeat (first | (with_reducible first | exact HI0.out | apply IsS47.alloc | apply IsS47.drewN | apply IsS47.drew | apply IsS47.set_1 | apply IsS47.set_2 | apply IsS47.set_3) | exact HI0.out), by repeat (first | (with_reducible first | exact HB.out | apply below_alloc | apply pw_below_drewN | apply below_drew1 | refine below_set ?_ (IsS47.ge HI0.out)) | exact HB.out), by repeat (first | (with_reducible first | exact HK.out | apply KeepBut.set_ | apply keep_drewN | apply keep_drew | apply keep_alloc) | exact HK.out)⟩
  · rw [if_neg c2] at H
    have c2b0 : (s0_2 == 0) = false := beq_eq_false_iff_ne.mpr c2
    have c2b1 : (s0_2 != 0) = true := bne_iff_ne.mpr c2
    simp only [Option.some.injEq, Prod.mk.injEq] at H
    obtain ⟨rfl, rfl, rfl, rfl, rfl⟩ := H
    obtain ⟨ASz6_0, cSz6_0, HGz6, hgz6, HSz6_0⟩ := HI0.out
    have hcz6_0 := cellS47_0 HGz6
    have hcz6_1 := cellS47_1 HGz6
    have hcz6_2 := cellS47_2 HGz6
    have hcz6_3 := cellS47_3 HGz6
    have hfz6_1 := blk_frozen HGz6 1
    have hfz6_2 := blk_frozen HGz6 2
    have hfz6_3 := blk_frozen HGz6 3
    clear HGz6 hgz6
    go_enter Tryd.func34, Tryd.ntmps34
    go_wp2
    repeat (go_quiet (fail); try go_wp2)
    go_ret2
    exact ⟨by first | rfl | (simp [errW_none, errW_some] <;> rfl) | (simp [*, errW_none, errW_some] <;> rfl), by repeat (first | (with_reducible first | exact HI0.out | apply IsS47.alloc | apply IsS47.drewN | apply IsS47.drew | apply IsS47.set_1 | apply IsS47.set_2 | apply IsS47.set_3) | exact HI0.out), by repeat (first | (with_reducible first | exact HB.out | apply below_alloc | apply pw_below_drewN | apply below_drew1 | refine below_set ?_ (IsS47.ge HI0.out)) | exact HB.out), by repeat (first | (with_reducible first | exact HK.out | apply KeepBut.set_ | apply keep_drewN | apply keep_drew | apply keep_alloc) | exact HK.out)⟩

end Go.Proofs.YtjmhfbgpebgcmaaDoor.PPlainGets
