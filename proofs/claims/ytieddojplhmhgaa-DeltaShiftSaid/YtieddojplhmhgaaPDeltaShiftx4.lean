/- WRITTEN BY A PROGRAM of this session (wip/tool: a turned copy of the printer), out of the translation: Lean functions with the answers of the Go functions, and the proofs that the Go code comes to them. -/
import Derived.Test.YtieddojplhmhgaaPDeltaShiftx0
import Derived.Test.YtieddojplhmhgaaPDeltaShiftx1
import Derived.Test.YtieddojplhmhgaaPDeltaShiftx2
import Derived.Test.YtieddojplhmhgaaPDeltaShiftx3
namespace Go.Proofs.Ytieddojplhmhgaa.PDeltaShift
open Go.RowKit Go.Proofs.YtieddojplhmhgaaW.PrintWords Go.Proofs.YtieddojplhmhgaaW.PrintLast Go.Proofs.YtieddojplhmhgaaW.PrintMore
attribute [local go_sem] max2_int min2_int max_two min_two max_three min_three max_four min_four   -- for this text's walks alone
set_option linter.unusedVariables false
set_option linter.unusedSimpArgs false

/-! ### estreatlaw10_DeltaShift: function 3 -/
def estreatlaw10_DeltaShift.l0 : Nat → List Int → Int → List Int → Int → Option (Bool)
  | 0, _, _, _, _ => none
  | k + 1, x0, x1, x5, x6 => if x6 < (x0.length : Int) then (if 0 ≤ x6 then (if x5.length < 17592186044416 then (estreatlaw10_DeltaShift.l0 k x0 x1 (x5 ++ [wrap64 ((rd x0 x6) + x1)]) (wrap64 (x6 + 1))) else (none)) else (none)) else ((delta_Steps.f k x0).bind fun t191 => ((delta_Steps.f k x5).bind fun t194 => ((delta_Put.f k x0).bind fun bt197 => ((delta_Put.f k x5).bind fun bt201 => (if bt197.2 = 0 then (if bt201.2 = 0 then (if (t191.length : Int) = (x0.length : Int) then (if (t194.length : Int) = (x0.length : Int) then (if 0 < (t194.length : Int) then (if 0 < (t191.length : Int) then (if (rd t194 0) = (wrap64 ((rd t191 0) + x1)) then (if 0 < (x0.length : Int) then ((estreatref01_Zig.f (rd x0 0)).bind fun t208 => ((estreatref01_Var.f k t208).bind fun t209 => (if 0 < (x5.length : Int) then ((estreatref01_Zig.f (rd x5 0)).bind fun t213 => ((estreatref01_Var.f k t213).bind fun t214 => (if 1 ≤ (t191.length : Int) then (if 1 ≤ (t194.length : Int) then ((estreatref08_Same.f k (t191.drop 1) (t194.drop 1)).bind fun t225 => (if t225 = true then (if (bt197.1.length : Int) ≥ (t209.length : Int) then (if (bt201.1.length : Int) ≥ (t214.length : Int) then (if 0 ≤ (t209.length : Int) then (if (t209.length : Int) ≤ (bt197.1.length : Int) then (if 0 ≤ (t214.length : Int) then (if (t214.length : Int) ≤ (bt201.1.length : Int) then ((estreatref01_Same.f k (bt197.1.drop ((t209.length : Int) : Int).toNat) (bt201.1.drop ((t214.length : Int) : Int).toNat)).bind fun t234 => (if t234 = true then ((estreatlaw10_awake.f k).bind fun t235 => (some t235)) else (some false))) else (none)) else (none)) else (none)) else (none)) else (some false)) else (some false)) else (some false))) else (none)) else (none)))) else (none)))) else (none)) else (some false)) else (none)) else (none)) else (some false)) else (some false)) else (some false)) else (some false))))))
def estreatlaw10_DeltaShift.f (k : Nat) (l0 : List Int) (a1 : Int) : Option (Bool) := if (l0.length : Int) > 200 then ((estreatlaw10_awake.f k).bind fun t185 => (some t185)) else (if (l0.length : Int) = 0 then ((estreatlaw10_awake.f k).bind fun t186 => (some t186)) else (estreatlaw10_DeltaShift.l0 k l0 a1 ([] : List Int) 0))
theorem estreatlaw10_DeltaShift.mono_l : ∀ k, (∀ y0 y1 y2 y3, LeO (estreatlaw10_DeltaShift.l0 k y0 y1 y2 y3) (estreatlaw10_DeltaShift.l0 (k + 1) y0 y1 y2 y3))
  | 0 => fun _ _ _ _ r h => by simp [estreatlaw10_DeltaShift.l0] at h
  | k + 1 => by
    have ih0 := estreatlaw10_DeltaShift.mono_l k
    · intro y0 y1 y2 y3
      unfold estreatlaw10_DeltaShift.l0
      repeat' first
      | (with_reducible exact ih0 _ _ _ _)
      | (with_reducible exact delta_Put.mono _ _)
      | (with_reducible exact delta_Steps.mono _ _)
      | (with_reducible exact estreatlaw10_awake.mono _)
      | (with_reducible exact estreatref01_Same.mono _ _ _)
      | (with_reducible exact estreatref01_Var.mono _ _)
      | (with_reducible exact estreatref08_Same.mono _ _ _)
      | (with_reducible exact LeO.refl _)
      | (with_reducible exact LeO.none _)
      | (with_reducible refine LeO.ite ?_ ?_)
      | (with_reducible refine LeO.bind ?_ (fun _ => ?_))
      | exact ih0 _ _ _ _
      | exact delta_Put.mono _ _
      | exact delta_Steps.mono _ _
      | exact estreatlaw10_awake.mono _
      | exact estreatref01_Same.mono _ _ _
      | exact estreatref01_Var.mono _ _
      | exact estreatref08_Same.mono _ _ _
      | exact LeO.none _
      | refine LeO.ite ?_ ?_
      | refine LeO.bind ?_ (fun _ => ?_)
theorem estreatlaw10_DeltaShift.mono : ∀ a0 a1 k, LeO (estreatlaw10_DeltaShift.f k a0 a1) (estreatlaw10_DeltaShift.f (k + 1) a0 a1) := by
  intro a0 a1 k
  have ih0 := estreatlaw10_DeltaShift.mono_l k
  unfold estreatlaw10_DeltaShift.f
  repeat' first
      | (with_reducible exact ih0 _ _ _ _)
      | (with_reducible exact delta_Put.mono _ _)
      | (with_reducible exact delta_Steps.mono _ _)
      | (with_reducible exact estreatlaw10_awake.mono _)
      | (with_reducible exact estreatref01_Same.mono _ _ _)
      | (with_reducible exact estreatref01_Var.mono _ _)
      | (with_reducible exact estreatref08_Same.mono _ _ _)
      | (with_reducible exact LeO.refl _)
      | (with_reducible exact LeO.none _)
      | (with_reducible refine LeO.ite ?_ ?_)
      | (with_reducible refine LeO.bind ?_ (fun _ => ?_))
      | exact ih0 _ _ _ _
      | exact delta_Put.mono _ _
      | exact delta_Steps.mono _ _
      | exact estreatlaw10_awake.mono _
      | exact estreatref01_Same.mono _ _ _
      | exact estreatref01_Var.mono _ _
      | exact estreatref08_Same.mono _ _ _
      | exact LeO.none _
      | refine LeO.ite ?_ ?_
      | refine LeO.bind ?_ (fun _ => ?_)
def estreatlaw10_DeltaShift.T11 : Bool × List (List Nat × List Nat) := (true, [([], []), ([0], [0]), ([1], [1]), ([2], [2]), ([3, 2], [2, 3]), ([2, 4], [2, 4]), ([5, 2], [5]), ([6], [6]), ([7, 6], [6, 7]), ([6], [6]), ([9, 6], [6, 9]), ([8, 10, 6], [6, 8, 10]), ([6, 11], [6, 11]), ([12, 6], [12]), ([13], [13]), ([14, 13], [13, 14]), ([13], [13]), ([16, 13], [13, 16]), ([15, 17, 13], [13, 15, 17]), ([13, 18], [13, 18]), ([19, 13], [19]), ([20], [20]), ([21, 20], [20, 21]), ([22, 20], [20, 22]), ([20], [20]), ([24, 20], [20, 24]), ([25, 20], [20, 25]), ([20], [20]), ([26, 27, 20], [20, 26, 27]), ([23, 28, 20], [20, 23, 28]), ([20, 29], [20, 29])])
def estreatlaw10_DeltaShift.B11 : List Nat := [0, 1, 3, 7, 15, 31, 63, 127, 255, 127, 639, 2047, 4095, 8191, 16383, 32767, 16383, 81919, 262143, 524287, 1048575, 2097151, 4194303, 8388607, 2097151, 18874367, 52428799, 2097151, 253755391, 536870911, 1073741823]
theorem estreatlaw10_DeltaShift.tab11 : rtab .any (opsOf Try.f3 11) = estreatlaw10_DeltaShift.T11 := by kernel_rfl
theorem estreatlaw10_DeltaShift.bits11 : waitsOk estreatlaw10_DeltaShift.T11.2 estreatlaw10_DeltaShift.B11 = true := by kernel_rfl
def estreatlaw10_DeltaShift.T15 : Bool × List (List Nat × List Nat) := (true, [([], []), ([0], [0]), ([], []), ([2], [2]), ([1, 3], [1, 3]), ([4, 4], [4]), ([5], [5]), ([6, 5], [5, 6]), ([5], [5]), ([8, 5], [5, 8]), ([7, 9, 5], [5, 7, 9]), ([5, 10], [5, 10]), ([11, 5], [11]), ([12], [12]), ([13, 12], [12, 13]), ([12], [12]), ([15, 12], [12, 15]), ([14, 16, 12], [12, 14, 16]), ([12, 17], [12, 17]), ([18, 12], [18]), ([19], [19]), ([19], [19]), ([21, 19], [19, 21]), ([20, 22, 19], [19, 20, 22]), ([19], [19]), ([19], [19]), ([25, 19], [19, 25]), ([24, 26, 19], [19, 24, 26]), ([23, 27, 19, 19], [19, 23, 27]), ([19, 28], [19, 28]), ([29, 28], [29]), ([30, 30], [30]), ([30, 31], [30, 31]), ([32, 31, 0, 1, 2, 3, 4, 5, 6, 7, 8, 9, 10, 11, 12, 13, 14, 15, 16, 17, 18, 19, 20, 21, 22, 23, 24, 25, 26, 27, 28, 29, 30, 31, 32], [32])])
def estreatlaw10_DeltaShift.B15 : List Nat := [0, 1, 0, 4, 15, 31, 63, 127, 63, 319, 1023, 2047, 4095, 8191, 16383, 8191, 40959, 131071, 262143, 524287, 1048575, 1048575, 3145727, 8388607, 1048575, 1048575, 34603007, 118489087, 268435455, 536870911, 1073741823, 2147483647, 4294967295, 8589934591]
theorem estreatlaw10_DeltaShift.tab15 : rtab .any (opsOf Try.f3 15) = estreatlaw10_DeltaShift.T15 := by kernel_rfl
theorem estreatlaw10_DeltaShift.bits15 : waitsOk estreatlaw10_DeltaShift.T15.2 estreatlaw10_DeltaShift.B15 = true := by kernel_rfl
set_option maxHeartbeats 8000000 in
set_option maxRecDepth 100000 in
theorem estreatlaw10_DeltaShift.calls (k : Nat) (A0 : Option Addr) (c0 : Nat) (l0 : List Int) (a1 : Int) (r : Bool) (w : World) (hr0 : Kd.C (Kd.int .i64) w A0 l0.length l0) (hc0 : l0.length ≤ c0) (h : estreatlaw10_DeltaShift.f k l0 a1 = some r) (hr : r = true) :
    Calls Try.prog 3 #[.slice A0 l0.length c0, .int .i64 a1] w fun e w' => e = .returned (.bool r) ∧ Below w.heap.size w w' := by
  have HR0 := Aside0.mk hr0
  have HC0 := Aside0.mk hc0
  clear hr0 hc0
  have HB := Aside0.mk (Below.refl w.heap.size w)
  have H : (if (l0.length : Int) > 200 then ((estreatlaw10_awake.f k).bind fun t185 => (some t185)) else (if (l0.length : Int) = 0 then ((estreatlaw10_awake.f k).bind fun t186 => (some t186)) else (estreatlaw10_DeltaShift.l0 k l0 a1 ([] : List Int) 0))) = some r := h
  clear h
  by_cases c3 : (l0.length : Int) > 200
  · rw [if_pos c3] at H
    have c3b0 : decide (200 < (l0.length : Int)) = true := decide_eq_true c3
    have c3b1 : decide (200 < l0.length) = true := decide_eq_true (by omega)
    clear c3
    replace H := Option.bind_eq_some_iff.mp H
    obtain ⟨t185, A40, H⟩ := H
    replace H : (some t185) = some r := H
    have A4 := Aside0.mk A40
    clear A40
    obtain rfl := Option.some.inj H
    go_enter Try.func3, Try.ntmps3
    go_wp2_with (first | ((with_reducible refine gate_callee (f := 9) rfl ?_); refine goesL_ (some 23) rfl rfl Try.func9 (by kernel_rfl) rfl #[] rfl (by (try simp only [List.map_toArray, List.map_cons, List.map_nil]); first | done | rfl | (simp only [List.length_drop, List.length_take]; rfl)) ?_; (with_reducible refine (estreatlaw10_awake.calls k  t185 _ A4.out).mono ?_); rintro e w5 ⟨rfl, hb⟩; refine ⟨_, rfl, ?_⟩; have n0_ := Aside0.mk (below_step (by repeat (first | (with_reducible first | exact HB.out | apply below_alloc | apply pw_below_drewN | apply below_drew1) | exact HB.out)) hb); clear HB; have HB := n0_; clear n0_; (try clear hb); (try clear hb2); (try clear hk); (try clear hi)))
    go_ret
    exact ⟨by first | rfl | (simp [errW_none, errW_some] <;> rfl) | (simp [*, errW_none, errW_some] <;> rfl), by repeat (first | (with_reducible first | exact HB.out | apply below_alloc | apply pw_below_drewN | apply below_drew1) | exact HB.out)⟩
  · rw [if_neg c3] at H
    have c3b0 : decide (200 < (l0.length : Int)) = false := decide_eq_false c3
    have c3b1 : decide (200 < l0.length) = false := decide_eq_false (by omega)
    clear c3
    by_cases c6 : (l0.length : Int) = 0
    · rw [if_pos c6] at H
      have c6b0 : ((l0.length : Int) == 0) = true := beq_iff_eq.mpr c6
      have c6b1 : ((l0.length : Int) != 0) = false := bne_eq_false_iff_eq.mpr c6
      clear c6
      replace H := Option.bind_eq_some_iff.mp H
      obtain ⟨t186, A70, H⟩ := H
      replace H : (some t186) = some r := H
      have A7 := Aside0.mk A70
      clear A70
      obtain rfl := Option.some.inj H
      go_enter Try.func3, Try.ntmps3
      go_wp2_with (first | ((with_reducible refine gate_callee (f := 9) rfl ?_); refine goesL_ (some 23) rfl rfl Try.func9 (by kernel_rfl) rfl #[] rfl (by (try simp only [List.map_toArray, List.map_cons, List.map_nil]); first | done | rfl | (simp only [List.length_drop, List.length_take]; rfl)) ?_; (with_reducible refine (estreatlaw10_awake.calls k  t186 _ A7.out).mono ?_); rintro e w8 ⟨rfl, hb⟩; refine ⟨_, rfl, ?_⟩; have n0_ := Aside0.mk (below_step (by repeat (first | (with_reducible first | exact HB.out | apply below_alloc | apply pw_below_drewN | apply below_drew1) | exact HB.out)) hb); clear HB; have HB := n0_; clear n0_; (try clear hb); (try clear hb2); (try clear hk); (try clear hi)))
      go_ret
      exact ⟨by first | rfl | (simp [errW_none, errW_some] <;> rfl) | (simp [*, errW_none, errW_some] <;> rfl), by repeat (first | (with_reducible first | exact HB.out | apply below_alloc | apply pw_below_drewN | apply below_drew1) | exact HB.out)⟩
    · rw [if_neg c6] at H
      have c6b0 : ((l0.length : Int) == 0) = false := beq_eq_false_iff_ne.mpr c6
      have c6b1 : ((l0.length : Int) != 0) = true := bne_iff_ne.mpr c6
      have c6b2 : ¬ (l0 = []) := fun h_ => c6 (by rw [h_]; rfl)
      have H' := Aside0.mk H
      clear H
      go_enter Try.func3, Try.ntmps3
      go_wp2
      go_loopg [5, 6] k (fun kq v5 v6 w' => ∃ (x5_1 : List Int) (x6_1 : Int), v6 = .int .i64 x6_1 ∧ Aside0 (estreatlaw10_DeltaShift.l0 kq l0 a1 x5_1 x6_1 = some r) ∧ Aside0 (kq ≤ k) ∧ Aside0 (Kd.R (Kd.int .i64) 2 w' w.heap.size (fun _ => True) v5 x5_1) ∧ Aside0 (Below w.heap.size w w'))
      case atStart => exact ⟨(([] : List Int)), (0), (by first | rfl | (simp; done) | (simp [*]; done)), H', ⟨Nat.le_refl _⟩, ⟨by first | exact Kd.R_nil _ _ _ _ _ | exact Kd.N_nil _ _ _ _ _ | exact Kd.V_nil _ _ _ _ _ | exact Kd.Q_nil _ _ _ _ _ | exact Kd.S_nil _ _ _ _ _⟩, ⟨by repeat (first | (with_reducible first | exact HB.out | apply below_alloc | apply pw_below_drewN | apply below_drew1) | exact HB.out)⟩⟩
      case round =>
        clear H'
        try clear p2
        try clear c3
        try clear c3b0
        try clear c3b1
        try clear c6
        try clear c6b0
        try clear c6b1
        try clear c6b2
        obtain ⟨x5_1, x6_1, rfl, HA, HK1, HO_5, HB⟩ := hrel
        cases gk with
        | zero => exact absurd HA.out (by simp [estreatlaw10_DeltaShift.l0])
        | succ k1 =>
          have H := HA.out
          clear HA
          simp only [estreatlaw10_DeltaShift.l0] at H
          by_cases c9 : x6_1 < (l0.length : Int)
          · rw [if_pos c9] at H
            have c9b0 : decide (x6_1 < (l0.length : Int)) = true := decide_eq_true c9
            clear c9
            by_cases c10 : 0 ≤ x6_1
            · rw [if_pos c10] at H
              have c10b0 : decide (0 ≤ x6_1) = true := decide_eq_true c10
              clear c10
              by_cases c11 : x5_1.length < 17592186044416
              · rw [if_pos c11] at H
                have LMc11 := Aside0.mk c11
                clear c11
                obtain ⟨y188, hy188⟩ : ∃ y_ : List Int, y_ = (x5_1 ++ [wrap64 ((rd l0 x6_1) + a1)]) := ⟨_, rfl⟩
                replace H : (estreatlaw10_DeltaShift.l0 k1 l0 a1 y188 (wrap64 (x6_1 + 1))) = some r := by first | (rw [hy188]; with_reducible exact H) | (have H2_ := (Option.bind_some _ _).symm.trans H; rw [hy188]; with_reducible exact H2_) | (have H2_ := (Option.bind_some _ _).symm.trans H; with_reducible exact H2_) | with_reducible exact H | (rw [hy188]; exact H) | exact H
                have Ny188 := Aside0.mk hy188
                clear hy188
                have H' := Aside0.mk H
                clear H
                have p187 : 0 ≤ (x6_1 : Int) := of_decide_eq_true (by first | (with_reducible assumption) | assumption)
                have q187 : x6_1 < (l0.length : Int) := of_decide_eq_true (by first | (with_reducible assumption) | assumption)
                obtain ⟨ad187, e187, hx187_0⟩ := Kd.at_int HR0.out x6_1 p187 q187
                cases e187
                replace hx187_0 := (HB.out.cell (World.block_lt_of_cell? w _ hx187_0)).trans hx187_0
                replace p187 := eq_true p187
                replace q187 := eq_true q187
                go_wp2_with (first | ((with_reducible refine gate_builtin (b := .append) (xs := #[.tmp 30, .tmp 37]) rfl ?_); (try (refine gate_guard (by rfl) ?_; dsimp only)); at_builtin; refine Kd.R_append (Kd.int .i64) (w0 := w) w.heap.size rfl (.tmp 30) (.tmp 37) 22 2 (.int .i64 0) 8 rfl Try.underlying22 info2 rfl (by decide) (by omega) u5 x5_1 (wrap64 ((rd l0 x6_1) + a1)) [.int .i64 (wrap64 ((rd l0 x6_1) + a1))] (fun _ => True) (fun _ => False) rfl rfl ?aP (fun _ hk => hk.elim) ?aF ?aO ?aB ?aS ?aL ?_; (case aP => exact rfl); (case aB => exact (by repeat (first | (with_reducible first | exact HB.out | apply below_alloc | apply pw_below_drewN | apply below_drew1) | exact HB.out))); (case aF => exact (fun _ _ => trivial)); (case aO => exact (by (with_reducible repeat (first | apply Kd.R_alloc | apply Kd.R_drewN | apply Kd.R_drew)); exact HO_5.out)); (case aS => exact (below_size (by repeat (first | (with_reducible first | exact HB.out | apply below_alloc | apply pw_below_drewN | apply below_drew1) | exact HB.out)))); (case aL => have := LMc11.out; omega); intro v189 w12 ho hb hg hat; rw [← Ny188.out] at ho; have n0_ := Aside0.mk (hb); have n1_ := Aside0.mk (ho); clear HB; clear HO_5; have HB := n0_; have HO190 := n1_; clear n0_ n1_; clear ho hb hg hat))
                go_roundg k1
                case measure => have := HK1.out; omega
                case rel => exact ⟨(y188), (wrap64 (x6_1 + 1)), (by first | rfl | (simp; done) | (simp [*]; done)), H', ⟨by have := HK1.out; omega⟩, ⟨by (with_reducible repeat (first | apply Kd.R_alloc | apply Kd.R_drewN | apply Kd.R_drew)); exact HO190.out⟩, ⟨by repeat (first | (with_reducible first | exact HB.out | apply below_alloc | apply pw_below_drewN | apply below_drew1) | exact HB.out)⟩⟩
              · rw [if_neg c11] at H
                exact absurd H (by simp)
            · rw [if_neg c10] at H
              exact absurd H (by simp)
          · rw [if_neg c9] at H
            have c9b0 : decide (x6_1 < (l0.length : Int)) = false := decide_eq_false c9
            clear c9
            replace H := Option.bind_eq_some_iff.mp H
            obtain ⟨t191, A130, H⟩ := H
            replace H : ((delta_Steps.f k1 x5_1).bind fun t194 => ((delta_Put.f k1 l0).bind fun bt197 => ((delta_Put.f k1 x5_1).bind fun bt201 => (if bt197.2 = 0 then (if bt201.2 = 0 then (if (t191.length : Int) = (l0.length : Int) then (if (t194.length : Int) = (l0.length : Int) then (if 0 < (t194.length : Int) then (if 0 < (t191.length : Int) then (if (rd t194 0) = (wrap64 ((rd t191 0) + a1)) then (if 0 < (l0.length : Int) then ((estreatref01_Zig.f (rd l0 0)).bind fun t208 => ((estreatref01_Var.f k1 t208).bind fun t209 => (if 0 < (x5_1.length : Int) then ((estreatref01_Zig.f (rd x5_1 0)).bind fun t213 => ((estreatref01_Var.f k1 t213).bind fun t214 => (if 1 ≤ (t191.length : Int) then (if 1 ≤ (t194.length : Int) then ((estreatref08_Same.f k1 (t191.drop 1) (t194.drop 1)).bind fun t225 => (if t225 = true then (if (bt197.1.length : Int) ≥ (t209.length : Int) then (if (bt201.1.length : Int) ≥ (t214.length : Int) then (if 0 ≤ (t209.length : Int) then (if (t209.length : Int) ≤ (bt197.1.length : Int) then (if 0 ≤ (t214.length : Int) then (if (t214.length : Int) ≤ (bt201.1.length : Int) then ((estreatref01_Same.f k1 (bt197.1.drop ((t209.length : Int) : Int).toNat) (bt201.1.drop ((t214.length : Int) : Int).toNat)).bind fun t234 => (if t234 = true then ((estreatlaw10_awake.f k1).bind fun t235 => (some t235)) else (some false))) else (none)) else (none)) else (none)) else (none)) else (some false)) else (some false)) else (some false))) else (none)) else (none)))) else (none)))) else (none)) else (some false)) else (none)) else (none)) else (some false)) else (some false)) else (some false)) else (some false))))) = some r := H
            have A13 := Aside0.mk A130
            clear A130
            replace H := Option.bind_eq_some_iff.mp H
            obtain ⟨t194, A140, H⟩ := H
            replace H : ((delta_Put.f k1 l0).bind fun bt197 => ((delta_Put.f k1 x5_1).bind fun bt201 => (if bt197.2 = 0 then (if bt201.2 = 0 then (if (t191.length : Int) = (l0.length : Int) then (if (t194.length : Int) = (l0.length : Int) then (if 0 < (t194.length : Int) then (if 0 < (t191.length : Int) then (if (rd t194 0) = (wrap64 ((rd t191 0) + a1)) then (if 0 < (l0.length : Int) then ((estreatref01_Zig.f (rd l0 0)).bind fun t208 => ((estreatref01_Var.f k1 t208).bind fun t209 => (if 0 < (x5_1.length : Int) then ((estreatref01_Zig.f (rd x5_1 0)).bind fun t213 => ((estreatref01_Var.f k1 t213).bind fun t214 => (if 1 ≤ (t191.length : Int) then (if 1 ≤ (t194.length : Int) then ((estreatref08_Same.f k1 (t191.drop 1) (t194.drop 1)).bind fun t225 => (if t225 = true then (if (bt197.1.length : Int) ≥ (t209.length : Int) then (if (bt201.1.length : Int) ≥ (t214.length : Int) then (if 0 ≤ (t209.length : Int) then (if (t209.length : Int) ≤ (bt197.1.length : Int) then (if 0 ≤ (t214.length : Int) then (if (t214.length : Int) ≤ (bt201.1.length : Int) then ((estreatref01_Same.f k1 (bt197.1.drop ((t209.length : Int) : Int).toNat) (bt201.1.drop ((t214.length : Int) : Int).toNat)).bind fun t234 => (if t234 = true then ((estreatlaw10_awake.f k1).bind fun t235 => (some t235)) else (some false))) else (none)) else (none)) else (none)) else (none)) else (some false)) else (some false)) else (some false))) else (none)) else (none)))) else (none)))) else (none)) else (some false)) else (none)) else (none)) else (some false)) else (some false)) else (some false)) else (some false)))) = some r := H
            have A14 := Aside0.mk A140
            clear A140
            replace H := Option.bind_eq_some_iff.mp H
            obtain ⟨⟨t197, t198⟩, A150, H⟩ := H
            replace H : ((delta_Put.f k1 x5_1).bind fun bt201 => (if t198 = 0 then (if bt201.2 = 0 then (if (t191.length : Int) = (l0.length : Int) then (if (t194.length : Int) = (l0.length : Int) then (if 0 < (t194.length : Int) then (if 0 < (t191.length : Int) then (if (rd t194 0) = (wrap64 ((rd t191 0) + a1)) then (if 0 < (l0.length : Int) then ((estreatref01_Zig.f (rd l0 0)).bind fun t208 => ((estreatref01_Var.f k1 t208).bind fun t209 => (if 0 < (x5_1.length : Int) then ((estreatref01_Zig.f (rd x5_1 0)).bind fun t213 => ((estreatref01_Var.f k1 t213).bind fun t214 => (if 1 ≤ (t191.length : Int) then (if 1 ≤ (t194.length : Int) then ((estreatref08_Same.f k1 (t191.drop 1) (t194.drop 1)).bind fun t225 => (if t225 = true then (if (t197.length : Int) ≥ (t209.length : Int) then (if (bt201.1.length : Int) ≥ (t214.length : Int) then (if 0 ≤ (t209.length : Int) then (if (t209.length : Int) ≤ (t197.length : Int) then (if 0 ≤ (t214.length : Int) then (if (t214.length : Int) ≤ (bt201.1.length : Int) then ((estreatref01_Same.f k1 (t197.drop ((t209.length : Int) : Int).toNat) (bt201.1.drop ((t214.length : Int) : Int).toNat)).bind fun t234 => (if t234 = true then ((estreatlaw10_awake.f k1).bind fun t235 => (some t235)) else (some false))) else (none)) else (none)) else (none)) else (none)) else (some false)) else (some false)) else (some false))) else (none)) else (none)))) else (none)))) else (none)) else (some false)) else (none)) else (none)) else (some false)) else (some false)) else (some false)) else (some false))) = some r := H
            have A15 := Aside0.mk A150
            clear A150
            replace H := Option.bind_eq_some_iff.mp H
            obtain ⟨⟨t201, t202⟩, A160, H⟩ := H
            replace H : (if t198 = 0 then (if t202 = 0 then (if (t191.length : Int) = (l0.length : Int) then (if (t194.length : Int) = (l0.length : Int) then (if 0 < (t194.length : Int) then (if 0 < (t191.length : Int) then (if (rd t194 0) = (wrap64 ((rd t191 0) + a1)) then (if 0 < (l0.length : Int) then ((estreatref01_Zig.f (rd l0 0)).bind fun t208 => ((estreatref01_Var.f k1 t208).bind fun t209 => (if 0 < (x5_1.length : Int) then ((estreatref01_Zig.f (rd x5_1 0)).bind fun t213 => ((estreatref01_Var.f k1 t213).bind fun t214 => (if 1 ≤ (t191.length : Int) then (if 1 ≤ (t194.length : Int) then ((estreatref08_Same.f k1 (t191.drop 1) (t194.drop 1)).bind fun t225 => (if t225 = true then (if (t197.length : Int) ≥ (t209.length : Int) then (if (t201.length : Int) ≥ (t214.length : Int) then (if 0 ≤ (t209.length : Int) then (if (t209.length : Int) ≤ (t197.length : Int) then (if 0 ≤ (t214.length : Int) then (if (t214.length : Int) ≤ (t201.length : Int) then ((estreatref01_Same.f k1 (t197.drop ((t209.length : Int) : Int).toNat) (t201.drop ((t214.length : Int) : Int).toNat)).bind fun t234 => (if t234 = true then ((estreatlaw10_awake.f k1).bind fun t235 => (some t235)) else (some false))) else (none)) else (none)) else (none)) else (none)) else (some false)) else (some false)) else (some false))) else (none)) else (none)))) else (none)))) else (none)) else (some false)) else (none)) else (none)) else (some false)) else (some false)) else (some false)) else (some false)) = some r := H
            have A16 := Aside0.mk A160
            clear A160
            by_cases c17 : t198 = 0
            · rw [if_pos c17] at H
              have c17b0 : (t198 == 0) = true := beq_iff_eq.mpr c17
              have c17b1 : (t198 != 0) = false := bne_eq_false_iff_eq.mpr c17
              clear c17
              by_cases c18 : t202 = 0
              · rw [if_pos c18] at H
                have c18b0 : (t202 == 0) = true := beq_iff_eq.mpr c18
                have c18b1 : (t202 != 0) = false := bne_eq_false_iff_eq.mpr c18
                clear c18
                by_cases c19 : (t191.length : Int) = (l0.length : Int)
                · rw [if_pos c19] at H
                  have c19b0 : ((t191.length : Int) == (l0.length : Int)) = true := beq_iff_eq.mpr c19
                  have c19b1 : ((t191.length : Int) != (l0.length : Int)) = false := bne_eq_false_iff_eq.mpr c19
                  have c19b2 : (t191.length == l0.length) = true := by first | simpa using c19 | (simp at c19 ⊢; omega)
                  clear c19
                  by_cases c20 : (t194.length : Int) = (l0.length : Int)
                  · rw [if_pos c20] at H
                    have c20b0 : ((t194.length : Int) == (l0.length : Int)) = true := beq_iff_eq.mpr c20
                    have c20b1 : ((t194.length : Int) != (l0.length : Int)) = false := bne_eq_false_iff_eq.mpr c20
                    have c20b2 : (t194.length == l0.length) = true := by first | simpa using c20 | (simp at c20 ⊢; omega)
                    clear c20
                    by_cases c21 : 0 < (t194.length : Int)
                    · rw [if_pos c21] at H
                      have c21b0 : decide (0 < (t194.length : Int)) = true := decide_eq_true c21
                      have c21b1 : decide (0 < t194.length) = true := decide_eq_true (by omega)
                      clear c21
                      by_cases c22 : 0 < (t191.length : Int)
                      · rw [if_pos c22] at H
                        have c22b0 : decide (0 < (t191.length : Int)) = true := decide_eq_true c22
                        have c22b1 : decide (0 < t191.length) = true := decide_eq_true (by omega)
                        clear c22
                        by_cases c23 : (rd t194 0) = (wrap64 ((rd t191 0) + a1))
                        · rw [if_pos c23] at H
                          have c23b0 : ((rd t194 0) == (wrap64 ((rd t191 0) + a1))) = true := beq_iff_eq.mpr c23
                          have c23b1 : ((rd t194 0) != (wrap64 ((rd t191 0) + a1))) = false := bne_eq_false_iff_eq.mpr c23
                          clear c23
                          by_cases c24 : 0 < (l0.length : Int)
                          · rw [if_pos c24] at H
                            have c24b0 : decide (0 < (l0.length : Int)) = true := decide_eq_true c24
                            have c24b1 : decide (0 < l0.length) = true := decide_eq_true (by omega)
                            clear c24
                            replace H := Option.bind_eq_some_iff.mp H
                            obtain ⟨t208, A250, H⟩ := H
                            replace H : ((estreatref01_Var.f k1 t208).bind fun t209 => (if 0 < (x5_1.length : Int) then ((estreatref01_Zig.f (rd x5_1 0)).bind fun t213 => ((estreatref01_Var.f k1 t213).bind fun t214 => (if 1 ≤ (t191.length : Int) then (if 1 ≤ (t194.length : Int) then ((estreatref08_Same.f k1 (t191.drop 1) (t194.drop 1)).bind fun t225 => (if t225 = true then (if (t197.length : Int) ≥ (t209.length : Int) then (if (t201.length : Int) ≥ (t214.length : Int) then (if 0 ≤ (t209.length : Int) then (if (t209.length : Int) ≤ (t197.length : Int) then (if 0 ≤ (t214.length : Int) then (if (t214.length : Int) ≤ (t201.length : Int) then ((estreatref01_Same.f k1 (t197.drop ((t209.length : Int) : Int).toNat) (t201.drop ((t214.length : Int) : Int).toNat)).bind fun t234 => (if t234 = true then ((estreatlaw10_awake.f k1).bind fun t235 => (some t235)) else (some false))) else (none)) else (none)) else (none)) else (none)) else (some false)) else (some false)) else (some false))) else (none)) else (none)))) else (none))) = some r := H
                            have A25 := Aside0.mk A250
                            clear A250
                            replace H := Option.bind_eq_some_iff.mp H
                            obtain ⟨t209, A260, H⟩ := H
                            replace H : (if 0 < (x5_1.length : Int) then ((estreatref01_Zig.f (rd x5_1 0)).bind fun t213 => ((estreatref01_Var.f k1 t213).bind fun t214 => (if 1 ≤ (t191.length : Int) then (if 1 ≤ (t194.length : Int) then ((estreatref08_Same.f k1 (t191.drop 1) (t194.drop 1)).bind fun t225 => (if t225 = true then (if (t197.length : Int) ≥ (t209.length : Int) then (if (t201.length : Int) ≥ (t214.length : Int) then (if 0 ≤ (t209.length : Int) then (if (t209.length : Int) ≤ (t197.length : Int) then (if 0 ≤ (t214.length : Int) then (if (t214.length : Int) ≤ (t201.length : Int) then ((estreatref01_Same.f k1 (t197.drop ((t209.length : Int) : Int).toNat) (t201.drop ((t214.length : Int) : Int).toNat)).bind fun t234 => (if t234 = true then ((estreatlaw10_awake.f k1).bind fun t235 => (some t235)) else (some false))) else (none)) else (none)) else (none)) else (none)) else (some false)) else (some false)) else (some false))) else (none)) else (none)))) else (none)) = some r := H
                            have A26 := Aside0.mk A260
                            clear A260
                            by_cases c27 : 0 < (x5_1.length : Int)
                            · rw [if_pos c27] at H
                              have c27b0 : decide (0 < (x5_1.length : Int)) = true := decide_eq_true c27
                              have c27b1 : decide (0 < x5_1.length) = true := decide_eq_true (by omega)
                              clear c27
                              replace H := Option.bind_eq_some_iff.mp H
                              obtain ⟨t213, A280, H⟩ := H
                              replace H : ((estreatref01_Var.f k1 t213).bind fun t214 => (if 1 ≤ (t191.length : Int) then (if 1 ≤ (t194.length : Int) then ((estreatref08_Same.f k1 (t191.drop 1) (t194.drop 1)).bind fun t225 => (if t225 = true then (if (t197.length : Int) ≥ (t209.length : Int) then (if (t201.length : Int) ≥ (t214.length : Int) then (if 0 ≤ (t209.length : Int) then (if (t209.length : Int) ≤ (t197.length : Int) then (if 0 ≤ (t214.length : Int) then (if (t214.length : Int) ≤ (t201.length : Int) then ((estreatref01_Same.f k1 (t197.drop ((t209.length : Int) : Int).toNat) (t201.drop ((t214.length : Int) : Int).toNat)).bind fun t234 => (if t234 = true then ((estreatlaw10_awake.f k1).bind fun t235 => (some t235)) else (some false))) else (none)) else (none)) else (none)) else (none)) else (some false)) else (some false)) else (some false))) else (none)) else (none))) = some r := H
                              have A28 := Aside0.mk A280
                              clear A280
                              replace H := Option.bind_eq_some_iff.mp H
                              obtain ⟨t214, A290, H⟩ := H
                              replace H : (if 1 ≤ (t191.length : Int) then (if 1 ≤ (t194.length : Int) then ((estreatref08_Same.f k1 (t191.drop 1) (t194.drop 1)).bind fun t225 => (if t225 = true then (if (t197.length : Int) ≥ (t209.length : Int) then (if (t201.length : Int) ≥ (t214.length : Int) then (if 0 ≤ (t209.length : Int) then (if (t209.length : Int) ≤ (t197.length : Int) then (if 0 ≤ (t214.length : Int) then (if (t214.length : Int) ≤ (t201.length : Int) then ((estreatref01_Same.f k1 (t197.drop ((t209.length : Int) : Int).toNat) (t201.drop ((t214.length : Int) : Int).toNat)).bind fun t234 => (if t234 = true then ((estreatlaw10_awake.f k1).bind fun t235 => (some t235)) else (some false))) else (none)) else (none)) else (none)) else (none)) else (some false)) else (some false)) else (some false))) else (none)) else (none)) = some r := H
                              have A29 := Aside0.mk A290
                              clear A290
                              by_cases c30 : 1 ≤ (t191.length : Int)
                              · rw [if_pos c30] at H
                                have c30b0 := eq_true c30
                                have c30b1 : decide (1 ≤ (t191.length : Int)) = true := decide_eq_true c30
                                clear c30
                                obtain ⟨y217, hy217⟩ : ∃ y_ : List Int, y_ = (t191.drop 1) := ⟨_, rfl⟩
                                replace H : (if 1 ≤ (t194.length : Int) then ((estreatref08_Same.f k1 y217 (t194.drop 1)).bind fun t225 => (if t225 = true then (if (t197.length : Int) ≥ (t209.length : Int) then (if (t201.length : Int) ≥ (t214.length : Int) then (if 0 ≤ (t209.length : Int) then (if (t209.length : Int) ≤ (t197.length : Int) then (if 0 ≤ (t214.length : Int) then (if (t214.length : Int) ≤ (t201.length : Int) then ((estreatref01_Same.f k1 (t197.drop ((t209.length : Int) : Int).toNat) (t201.drop ((t214.length : Int) : Int).toNat)).bind fun t234 => (if t234 = true then ((estreatlaw10_awake.f k1).bind fun t235 => (some t235)) else (some false))) else (none)) else (none)) else (none)) else (none)) else (some false)) else (some false)) else (some false))) else (none)) = some r := by first | (rw [hy217]; with_reducible exact H) | (have H2_ := (Option.bind_some _ _).symm.trans H; rw [hy217]; with_reducible exact H2_) | (have H2_ := (Option.bind_some _ _).symm.trans H; with_reducible exact H2_) | with_reducible exact H | (rw [hy217]; exact H) | exact H
                                have Ny217 := Aside0.mk hy217
                                clear hy217
                                by_cases c31 : 1 ≤ (t194.length : Int)
                                · rw [if_pos c31] at H
                                  have c31b0 := eq_true c31
                                  have c31b1 : decide (1 ≤ (t194.length : Int)) = true := decide_eq_true c31
                                  clear c31
                                  obtain ⟨y221, hy221⟩ : ∃ y_ : List Int, y_ = (t194.drop 1) := ⟨_, rfl⟩
                                  replace H : ((estreatref08_Same.f k1 y217 y221).bind fun t225 => (if t225 = true then (if (t197.length : Int) ≥ (t209.length : Int) then (if (t201.length : Int) ≥ (t214.length : Int) then (if 0 ≤ (t209.length : Int) then (if (t209.length : Int) ≤ (t197.length : Int) then (if 0 ≤ (t214.length : Int) then (if (t214.length : Int) ≤ (t201.length : Int) then ((estreatref01_Same.f k1 (t197.drop ((t209.length : Int) : Int).toNat) (t201.drop ((t214.length : Int) : Int).toNat)).bind fun t234 => (if t234 = true then ((estreatlaw10_awake.f k1).bind fun t235 => (some t235)) else (some false))) else (none)) else (none)) else (none)) else (none)) else (some false)) else (some false)) else (some false))) = some r := by first | (rw [hy221]; with_reducible exact H) | (have H2_ := (Option.bind_some _ _).symm.trans H; rw [hy221]; with_reducible exact H2_) | (have H2_ := (Option.bind_some _ _).symm.trans H; with_reducible exact H2_) | with_reducible exact H | (rw [hy221]; exact H) | exact H
                                  have Ny221 := Aside0.mk hy221
                                  clear hy221
                                  replace H := Option.bind_eq_some_iff.mp H
                                  obtain ⟨t225, A320, H⟩ := H
                                  replace H : (if t225 = true then (if (t197.length : Int) ≥ (t209.length : Int) then (if (t201.length : Int) ≥ (t214.length : Int) then (if 0 ≤ (t209.length : Int) then (if (t209.length : Int) ≤ (t197.length : Int) then (if 0 ≤ (t214.length : Int) then (if (t214.length : Int) ≤ (t201.length : Int) then ((estreatref01_Same.f k1 (t197.drop ((t209.length : Int) : Int).toNat) (t201.drop ((t214.length : Int) : Int).toNat)).bind fun t234 => (if t234 = true then ((estreatlaw10_awake.f k1).bind fun t235 => (some t235)) else (some false))) else (none)) else (none)) else (none)) else (none)) else (some false)) else (some false)) else (some false)) = some r := H
                                  have A32 := Aside0.mk A320
                                  clear A320
                                  by_cases c33 : t225 = true
                                  · subst c33
                                    have H1 : (if (t197.length : Int) ≥ (t209.length : Int) then (if (t201.length : Int) ≥ (t214.length : Int) then (if 0 ≤ (t209.length : Int) then (if (t209.length : Int) ≤ (t197.length : Int) then (if 0 ≤ (t214.length : Int) then (if (t214.length : Int) ≤ (t201.length : Int) then ((estreatref01_Same.f k1 (t197.drop ((t209.length : Int) : Int).toNat) (t201.drop ((t214.length : Int) : Int).toNat)).bind fun t234 => (if t234 = true then ((estreatlaw10_awake.f k1).bind fun t235 => (some t235)) else (some false))) else (none)) else (none)) else (none)) else (none)) else (some false)) else (some false)) = some r := by rw [if_pos rfl] at H; exact H
                                    clear H
                                    have H := H1
                                    clear H1
                                    by_cases c34 : (t197.length : Int) ≥ (t209.length : Int)
                                    · rw [if_pos c34] at H
                                      have c34b0 : decide ((t209.length : Int) ≤ (t197.length : Int)) = true := decide_eq_true c34
                                      have c34b1 : decide (t209.length ≤ t197.length) = true := decide_eq_true (Int.ofNat_le.mp c34)
                                      clear c34
                                      by_cases c35 : (t201.length : Int) ≥ (t214.length : Int)
                                      · rw [if_pos c35] at H
                                        have c35b0 : decide ((t214.length : Int) ≤ (t201.length : Int)) = true := decide_eq_true c35
                                        have c35b1 : decide (t214.length ≤ t201.length) = true := decide_eq_true (Int.ofNat_le.mp c35)
                                        clear c35
                                        by_cases c36 : 0 ≤ (t209.length : Int)
                                        · rw [if_pos c36] at H
                                          have c36b0 := eq_true c36
                                          have c36b1 : decide (0 ≤ (t209.length : Int)) = true := decide_eq_true c36
                                          clear c36
                                          by_cases c37 : (t209.length : Int) ≤ (t197.length : Int)
                                          · rw [if_pos c37] at H
                                            have c37b0 := eq_true c37
                                            have c37b1 : decide ((t209.length : Int) ≤ (t197.length : Int)) = true := decide_eq_true c37
                                            clear c37
                                            obtain ⟨y226, hy226⟩ : ∃ y_ : List Int, y_ = (t197.drop ((t209.length : Int) : Int).toNat) := ⟨_, rfl⟩
                                            replace H : (if 0 ≤ (t214.length : Int) then (if (t214.length : Int) ≤ (t201.length : Int) then ((estreatref01_Same.f k1 y226 (t201.drop ((t214.length : Int) : Int).toNat)).bind fun t234 => (if t234 = true then ((estreatlaw10_awake.f k1).bind fun t235 => (some t235)) else (some false))) else (none)) else (none)) = some r := by first | (rw [hy226]; with_reducible exact H) | (have H2_ := (Option.bind_some _ _).symm.trans H; rw [hy226]; with_reducible exact H2_) | (have H2_ := (Option.bind_some _ _).symm.trans H; with_reducible exact H2_) | with_reducible exact H | (rw [hy226]; exact H) | exact H
                                            have Ny226 := Aside0.mk hy226
                                            clear hy226
                                            by_cases c38 : 0 ≤ (t214.length : Int)
                                            · rw [if_pos c38] at H
                                              have c38b0 := eq_true c38
                                              have c38b1 : decide (0 ≤ (t214.length : Int)) = true := decide_eq_true c38
                                              clear c38
                                              by_cases c39 : (t214.length : Int) ≤ (t201.length : Int)
                                              · rw [if_pos c39] at H
                                                have c39b0 := eq_true c39
                                                have c39b1 : decide ((t214.length : Int) ≤ (t201.length : Int)) = true := decide_eq_true c39
                                                clear c39
                                                obtain ⟨y230, hy230⟩ : ∃ y_ : List Int, y_ = (t201.drop ((t214.length : Int) : Int).toNat) := ⟨_, rfl⟩
                                                replace H : ((estreatref01_Same.f k1 y226 y230).bind fun t234 => (if t234 = true then ((estreatlaw10_awake.f k1).bind fun t235 => (some t235)) else (some false))) = some r := by first | (rw [hy230]; with_reducible exact H) | (have H2_ := (Option.bind_some _ _).symm.trans H; rw [hy230]; with_reducible exact H2_) | (have H2_ := (Option.bind_some _ _).symm.trans H; with_reducible exact H2_) | with_reducible exact H | (rw [hy230]; exact H) | exact H
                                                have Ny230 := Aside0.mk hy230
                                                clear hy230
                                                replace H := Option.bind_eq_some_iff.mp H
                                                obtain ⟨t234, A400, H⟩ := H
                                                replace H : (if t234 = true then ((estreatlaw10_awake.f k1).bind fun t235 => (some t235)) else (some false)) = some r := H
                                                have A40 := Aside0.mk A400
                                                clear A400
                                                by_cases c41 : t234 = true
                                                · subst c41
                                                  have H1 : ((estreatlaw10_awake.f k1).bind fun t235 => (some t235)) = some r := by rw [if_pos rfl] at H; exact H
                                                  clear H
                                                  have H := H1
                                                  clear H1
                                                  replace H := Option.bind_eq_some_iff.mp H
                                                  obtain ⟨t235, A420, H⟩ := H
                                                  replace H : (some t235) = some r := H
                                                  have A42 := Aside0.mk A420
                                                  clear A420
                                                  obtain rfl := Option.some.inj H
                                                  try go_wp2_with (first | ((with_reducible refine gate_callee (f := 10) rfl ?_); refine goesL_ (some 40) rfl rfl Try.func10 (by kernel_rfl) rfl #[.slice A0 l0.length c0] rfl (by (try simp only [List.map_toArray, List.map_cons, List.map_nil]); first | done | rfl | (simp only [List.length_drop, List.length_take]; rfl)) ?_; (with_reducible refine (delta_Steps.calls k1 _ _ l0 t191 _ ?side1 ?side2 A13.out).mono ?_); (case side1 => repeat (first | exact (Kd.C_below HR0.out HB.out) | (with_reducible refine Kd.C_alloc ?_ _) | (with_reducible refine Kd.C_drewN ?_ _) | (with_reducible refine Kd.C_drew ?_))); (case side2 => exact HC0.out); rintro e w43 ⟨v192, rfl, ho0, hb⟩; refine ⟨_, rfl, ?_⟩; have n0_ := Aside0.mk (Kd.R_elder' (by (with_reducible repeat (first | apply Kd.R_alloc | apply Kd.R_drewN | apply Kd.R_drew)); exact HO_5.out) (Kd.R_base ho0) hb); have n1_ := Aside0.mk (Kd.R_lower (Kd.R_new' ho0 (Kd.R_lt (by (with_reducible repeat (first | apply Kd.R_alloc | apply Kd.R_drewN | apply Kd.R_drew)); exact HO_5.out))) (below_size (by repeat (first | (with_reducible first | exact HB.out | apply below_alloc | apply pw_below_drewN | apply below_drew1) | exact HB.out)))); have n2_ := Aside0.mk (below_step (by repeat (first | (with_reducible first | exact HB.out | apply below_alloc | apply pw_below_drewN | apply below_drew1) | exact HB.out)) hb); clear HO_5; clear HB; have HO_5 := n0_; have HO193 := n1_; have HB := n2_; clear n0_ n1_ n2_; (try clear hb); (try clear hb2); (try clear hk); (try clear hi); (try clear ho0); obtain ⟨Ao44, co44, eo44⟩ := Kd.R_slice HO_5.out; subst eo44) | ((with_reducible refine gate_callee (f := 10) rfl ?_); refine goesL_ (some 42) rfl rfl Try.func10 (by kernel_rfl) rfl #[.slice Ao44 x5_1.length co44] rfl (by (try simp only [List.map_toArray, List.map_cons, List.map_nil]); first | done | rfl | (simp only [List.length_drop, List.length_take]; rfl)) ?_; (with_reducible refine (delta_Steps.calls k1 _ _ x5_1 t194 _ ?side1 ?side2 A14.out).mono ?_); (case side1 => repeat (first | exact (Kd.R_reads' HO_5.out).2.2 | (with_reducible refine Kd.C_alloc ?_ _) | (with_reducible refine Kd.C_drewN ?_ _) | (with_reducible refine Kd.C_drew ?_))); (case side2 => exact (Kd.R_reads' HO_5.out).2.1); rintro e w45 ⟨v195, rfl, ho0, hb⟩; refine ⟨_, rfl, ?_⟩; have n0_ := Aside0.mk (Kd.R_elder' (by (with_reducible repeat (first | apply Kd.R_alloc | apply Kd.R_drewN | apply Kd.R_drew)); exact HO_5.out) (Kd.R_base ho0) hb); have n1_ := Aside0.mk (Kd.R_elder' (by (with_reducible repeat (first | apply Kd.R_alloc | apply Kd.R_drewN | apply Kd.R_drew)); exact HO193.out) (Kd.R_base ho0) hb); have n2_ := Aside0.mk (Kd.R_lower (Kd.R_new' (Kd.R_new' ho0 (Kd.R_lt (by (with_reducible repeat (first | apply Kd.R_alloc | apply Kd.R_drewN | apply Kd.R_drew)); exact HO_5.out))) (Kd.R_lt (by (with_reducible repeat (first | apply Kd.R_alloc | apply Kd.R_drewN | apply Kd.R_drew)); exact HO193.out))) (below_size (by repeat (first | (with_reducible first | exact HB.out | apply below_alloc | apply pw_below_drewN | apply below_drew1) | exact HB.out)))); have n3_ := Aside0.mk (below_step (by repeat (first | (with_reducible first | exact HB.out | apply below_alloc | apply pw_below_drewN | apply below_drew1) | exact HB.out)) hb); clear HO_5; clear HO193; clear HB; have HO_5 := n0_; have HO193 := n1_; have HO196 := n2_; have HB := n3_; clear n0_ n1_ n2_ n3_; (try clear hb); (try clear hb2); (try clear hk); (try clear hi); (try clear ho0)) | ((with_reducible refine gate_callee (f := 11) rfl ?_); refine goesL_ (some 45) rfl rfl Try.func11 (by kernel_rfl) rfl #[.slice A0 l0.length c0] rfl (by (try simp only [List.map_toArray, List.map_cons, List.map_nil]); first | done | rfl | (simp only [List.length_drop, List.length_take]; rfl)) ?_; (with_reducible refine (delta_Put.calls k1 _ _ l0 t197 t198 _ ?side1 ?side2 A15.out).mono ?_); (case side1 => repeat (first | exact (Kd.C_below HR0.out HB.out) | (with_reducible refine Kd.C_alloc ?_ _) | (with_reducible refine Kd.C_drewN ?_ _) | (with_reducible refine Kd.C_drew ?_))); (case side2 => exact HC0.out); rintro e w46 ⟨v199, rfl, ho0, hb⟩; refine ⟨_, rfl, ?_⟩; have n0_ := Aside0.mk (Kd.R_below (by (with_reducible repeat (first | apply Kd.R_alloc | apply Kd.R_drewN | apply Kd.R_drew)); exact HO_5.out) hb); have n1_ := Aside0.mk (Kd.R_below (by (with_reducible repeat (first | apply Kd.R_alloc | apply Kd.R_drewN | apply Kd.R_drew)); exact HO193.out) hb); have n2_ := Aside0.mk (Kd.R_below (by (with_reducible repeat (first | apply Kd.R_alloc | apply Kd.R_drewN | apply Kd.R_drew)); exact HO196.out) hb); have n3_ := Aside0.mk (Kd.R_lower ho0 (below_size (by repeat (first | (with_reducible first | exact HB.out | apply below_alloc | apply pw_below_drewN | apply below_drew1) | exact HB.out)))); have n4_ := Aside0.mk (below_step (by repeat (first | (with_reducible first | exact HB.out | apply below_alloc | apply pw_below_drewN | apply below_drew1) | exact HB.out)) hb); clear HO_5; clear HO193; clear HO196; clear HB; have HO_5 := n0_; have HO193 := n1_; have HO196 := n2_; have HO200 := n3_; have HB := n4_; clear n0_ n1_ n2_ n3_ n4_; (try clear hb); (try clear hb2); (try clear hk); (try clear hi); (try clear ho0)) | ((with_reducible refine gate_callee (f := 11) rfl ?_); refine goesL_ (some 50) rfl rfl Try.func11 (by kernel_rfl) rfl #[.slice Ao44 x5_1.length co44] rfl (by (try simp only [List.map_toArray, List.map_cons, List.map_nil]); first | done | rfl | (simp only [List.length_drop, List.length_take]; rfl)) ?_; (with_reducible refine (delta_Put.calls k1 _ _ x5_1 t201 t202 _ ?side1 ?side2 A16.out).mono ?_); (case side1 => repeat (first | exact (Kd.R_reads' HO_5.out).2.2 | (with_reducible refine Kd.C_alloc ?_ _) | (with_reducible refine Kd.C_drewN ?_ _) | (with_reducible refine Kd.C_drew ?_))); (case side2 => exact (Kd.R_reads' HO_5.out).2.1); rintro e w47 ⟨v203, rfl, ho0, hb⟩; refine ⟨_, rfl, ?_⟩; have n0_ := Aside0.mk (Kd.R_below (by (with_reducible repeat (first | apply Kd.R_alloc | apply Kd.R_drewN | apply Kd.R_drew)); exact HO_5.out) hb); have n1_ := Aside0.mk (Kd.R_below (by (with_reducible repeat (first | apply Kd.R_alloc | apply Kd.R_drewN | apply Kd.R_drew)); exact HO193.out) hb); have n2_ := Aside0.mk (Kd.R_below (by (with_reducible repeat (first | apply Kd.R_alloc | apply Kd.R_drewN | apply Kd.R_drew)); exact HO196.out) hb); have n3_ := Aside0.mk (Kd.R_elder' (by (with_reducible repeat (first | apply Kd.R_alloc | apply Kd.R_drewN | apply Kd.R_drew)); exact HO200.out) (Kd.R_base ho0) hb); have n4_ := Aside0.mk (Kd.R_lower (Kd.R_new' ho0 (Kd.R_lt (by (with_reducible repeat (first | apply Kd.R_alloc | apply Kd.R_drewN | apply Kd.R_drew)); exact HO200.out))) (below_size (by repeat (first | (with_reducible first | exact HB.out | apply below_alloc | apply pw_below_drewN | apply below_drew1) | exact HB.out)))); have n5_ := Aside0.mk (below_step (by repeat (first | (with_reducible first | exact HB.out | apply below_alloc | apply pw_below_drewN | apply below_drew1) | exact HB.out)) hb); clear HO_5; clear HO193; clear HO196; clear HO200; clear HB; have HO_5 := n0_; have HO193 := n1_; have HO196 := n2_; have HO200 := n3_; have HO204 := n4_; have HB := n5_; clear n0_ n1_ n2_ n3_ n4_ n5_; (try clear hb); (try clear hb2); (try clear hk); (try clear hi); (try clear ho0)))
                                                  have n0_ := Aside0.mk (Kd.R_drew HO_5.out)
                                                  have n1_ := Aside0.mk (Kd.R_drew HO193.out)
                                                  have n2_ := Aside0.mk (Kd.R_drew HO196.out)
                                                  have n3_ := Aside0.mk (Kd.R_drew HO200.out)
                                                  have n4_ := Aside0.mk (Kd.R_drew HO204.out)
                                                  have n5_ := Aside0.mk (below_drew1 HB.out)
                                                  clear HO_5
                                                  clear HO193
                                                  clear HO196
                                                  clear HO200
                                                  clear HO204
                                                  clear HB
                                                  have HO_5 := n0_
                                                  have HO193 := n1_
                                                  have HO196 := n2_
                                                  have HO200 := n3_
                                                  have HO204 := n4_
                                                  have HB := n5_
                                                  clear n0_ n1_ n2_ n3_ n4_ n5_
                                                  obtain ⟨Ao49, co49, eo49⟩ := Kd.R_slice HO193.out
                                                  (first | subst eo49 | (injection eo49 with f1_ f2_ f3_; have f4_ := f1_.symm; have f5_ := f3_.symm; clear f1_ f2_ f3_; subst f4_; subst f5_))
                                                  obtain ⟨Ao50, co50, eo50⟩ := Kd.R_slice HO196.out
                                                  (first | subst eo50 | (injection eo50 with f1_ f2_ f3_; have f4_ := f1_.symm; have f5_ := f3_.symm; clear f1_ f2_ f3_; subst f4_; subst f5_))
                                                  have p205 : 0 ≤ (0 : Int) := (by omega)
                                                  have q205 : 0 < (t194.length : Int) := of_decide_eq_true (by first | (with_reducible assumption) | assumption)
                                                  obtain ⟨ad205, e205, hx205_0⟩ := Kd.at_int (Kd.R_reads' HO196.out).2.2 0 p205 q205
                                                  cases e205
                                                  have qi205 : (0 < t194.length) = True := eq_true (by omega)
                                                  (try rw [show ((0 : Int)).toNat = 0 from rfl] at hx205_0)
                                                  (try rw [Addr.add_zero'] at hx205_0)
                                                  replace p205 := eq_true p205
                                                  replace q205 := eq_true q205
                                                  have p206 : 0 ≤ (0 : Int) := (by omega)
                                                  have q206 : 0 < (t191.length : Int) := of_decide_eq_true (by first | (with_reducible assumption) | assumption)
                                                  obtain ⟨ad206, e206, hx206_0⟩ := Kd.at_int (Kd.R_reads' HO193.out).2.2 0 p206 q206
                                                  cases e206
                                                  have qi206 : (0 < t191.length) = True := eq_true (by omega)
                                                  (try rw [show ((0 : Int)).toNat = 0 from rfl] at hx206_0)
                                                  (try rw [Addr.add_zero'] at hx206_0)
                                                  replace p206 := eq_true p206
                                                  replace q206 := eq_true q206
                                                  refine start_ (n := 31) (S := fun w' => w'.cell? ad205 = some (.int .i64 (rd t194 0)) ∧ w'.cell? ad206 = some (.int .i64 (rd t191 0))) (ds := []) #[false, false, false, false, false, false, false, false, false, false, false, false, false, false, false, false, false, false, false, false, false, false, false, false, false, false, false, false, false, false, false] (by kernel_rfl) rfl rfl ⟨hx205_0, hx206_0⟩ (fun hHeld => ?_); refine with_tabW estreatlaw10_DeltaShift.tab11 estreatlaw10_DeltaShift.bits11 (fun HT_ HW_ => ?_)
                                                  generalize w47.drew = w48 at HO_5 HO193 HO196 HO200 HO204 HB hx205_0 hx206_0 hHeld ⊢
                                                  refine pure_ (i := 0) (N := some 53) (v := ?_) (a' := ?_) #[true, false, false, false, false, false, false, false, false, false, false, false, false, false, false, false, false, false, false, false, false, false, false, false, false, false, false, false, false, false, false] rfl rfl (any_of HT_.out (by kernel_rfl)) (fun _ _ _ h => h) (Or.inl ⟨by rfl, ?_⟩) ?_ ?_
                                                  rotate_left
                                                  · intro w'
                                                    go_simp
                                                    with_reducible rfl
                                                  rotate_left
                                                  · simp only [Act.put, List.setIfInBounds_toArray, List.set_cons_zero, List.set_cons_succ, i64_w, i32_w]
                                                    rfl
                                                  refine pure_ (i := 1) (N := some 54) (v := ?_) (a' := ?_) #[true, true, false, false, false, false, false, false, false, false, false, false, false, false, false, false, false, false, false, false, false, false, false, false, false, false, false, false, false, false, false] rfl rfl (any_of HT_.out (by kernel_rfl)) (fun _ _ _ h => h) (Or.inl ⟨by rfl, ?_⟩) ?_ ?_
                                                  rotate_left
                                                  · intro w'
                                                    go_simp
                                                    with_reducible rfl
                                                  rotate_left
                                                  · simp only [Act.put, List.setIfInBounds_toArray, List.set_cons_zero, List.set_cons_succ, i64_w, i32_w]
                                                    rfl
                                                  refine pure_ (i := 2) (N := some 55) (v := ?_) (a' := ?_) #[true, true, true, false, false, false, false, false, false, false, false, false, false, false, false, false, false, false, false, false, false, false, false, false, false, false, false, false, false, false, false] rfl rfl (any_of HT_.out (by kernel_rfl)) (fun _ _ _ h => h) (Or.inl ⟨by rfl, ?_⟩) ?_ ?_
                                                  rotate_left
                                                  · intro w'
                                                    go_simp
                                                    with_reducible rfl
                                                  rotate_left
                                                  · simp only [Act.put, List.setIfInBounds_toArray, List.set_cons_zero, List.set_cons_succ, i64_w, i32_w]
                                                    rfl
                                                  refine pure_ (i := 3) (N := some 56) (v := ?_) (a' := ?_) #[true, true, true, true, false, false, false, false, false, false, false, false, false, false, false, false, false, false, false, false, false, false, false, false, false, false, false, false, false, false, false] rfl rfl (any_of HT_.out (by kernel_rfl)) (fun _ _ _ h => h) (Or.inl ⟨by rfl, ?_⟩) ?_ ?_
                                                  rotate_left
                                                  · intro w'
                                                    go_simp
                                                    with_reducible rfl
                                                  rotate_left
                                                  · simp only [Act.put, List.setIfInBounds_toArray, List.set_cons_zero, List.set_cons_succ, i64_w, i32_w]
                                                    rfl
                                                  refine pure_ (i := 4) (N := some 57) (v := ?_) (a' := ?_) #[true, true, true, true, true, false, false, false, false, false, false, false, false, false, false, false, false, false, false, false, false, false, false, false, false, false, false, false, false, false, false] rfl rfl (any_of HT_.out (by kernel_rfl)) (fun _ _ _ h => h) (Or.inl ⟨by rfl, ?_⟩) ?_ ?_
                                                  rotate_left
                                                  · intro w'
                                                    go_simp
                                                    with_reducible rfl
                                                  rotate_left
                                                  · simp only [Act.put, List.setIfInBounds_toArray, List.set_cons_zero, List.set_cons_succ, i64_w, i32_w]
                                                    rfl
                                                  refine pure_ (i := 5) (N := some 58) (v := ?_) (a' := ?_) #[true, true, true, true, true, true, false, false, false, false, false, false, false, false, false, false, false, false, false, false, false, false, false, false, false, false, false, false, false, false, false] rfl rfl (any_of HT_.out (by kernel_rfl)) (fun _ _ _ h => h) (Or.inl ⟨by rfl, ?_⟩) ?_ ?_
                                                  rotate_left
                                                  · intro w'
                                                    go_simp
                                                    with_reducible rfl
                                                  rotate_left
                                                  · simp only [Act.put, List.setIfInBounds_toArray, List.set_cons_zero, List.set_cons_succ, i64_w, i32_w]
                                                    rfl
                                                  refine pure_ (i := 6) (N := some 59) (v := ?_) (a' := ?_) #[true, true, true, true, true, true, true, false, false, false, false, false, false, false, false, false, false, false, false, false, false, false, false, false, false, false, false, false, false, false, false] rfl rfl (any_of HT_.out (by kernel_rfl)) (fun _ _ _ h => h) (Or.inl ⟨by rfl, ?_⟩) ?_ ?_
                                                  rotate_left
                                                  · intro w'
                                                    go_simp
                                                    with_reducible rfl
                                                  rotate_left
                                                  · simp only [Act.put, List.setIfInBounds_toArray, List.set_cons_zero, List.set_cons_succ, i64_w, i32_w]
                                                    rfl
                                                  refine pure_ (i := 7) (N := some 60) (v := ?_) (a' := ?_) #[true, true, true, true, true, true, true, true, false, false, false, false, false, false, false, false, false, false, false, false, false, false, false, false, false, false, false, false, false, false, false] rfl rfl (any_of HT_.out (by kernel_rfl)) (fun _ _ _ h => h) (Or.inl ⟨by rfl, ?_⟩) ?_ ?_
                                                  rotate_left
                                                  · intro w'
                                                    go_simp
                                                    with_reducible rfl
                                                  rotate_left
                                                  · simp only [Act.put, List.setIfInBounds_toArray, List.set_cons_zero, List.set_cons_succ, i64_w, i32_w]
                                                    rfl
                                                  refine pure_ (i := 8) (N := some 61) (v := ?_) (a' := ?_) #[true, true, true, true, true, true, true, true, true, false, false, false, false, false, false, false, false, false, false, false, false, false, false, false, false, false, false, false, false, false, false] rfl rfl (any_of HT_.out (by kernel_rfl)) (fun _ _ _ h => h) (Or.inl ⟨by rfl, ?_⟩) ?_ ?_
                                                  rotate_left
                                                  · intro w'
                                                    go_simp
                                                    with_reducible rfl
                                                  rotate_left
                                                  · simp only [Act.put, List.setIfInBounds_toArray, List.set_cons_zero, List.set_cons_succ, i64_w, i32_w]
                                                    rfl
                                                  refine pure_ (i := 9) (N := some 62) (v := ?_) (a' := ?_) #[true, true, true, true, true, true, true, true, true, true, false, false, false, false, false, false, false, false, false, false, false, false, false, false, false, false, false, false, false, false, false] rfl rfl (any_of HT_.out (by kernel_rfl)) (fun _ _ _ h => h) (Or.inl ⟨by rfl, ?_⟩) ?_ ?_
                                                  rotate_left
                                                  · intro w'
                                                    go_simp
                                                    with_reducible rfl
                                                  rotate_left
                                                  · simp only [Act.put, List.setIfInBounds_toArray, List.set_cons_zero, List.set_cons_succ, i64_w, i32_w]
                                                    rfl
                                                  refine pure_ (i := 10) (N := some 63) (v := ?_) (a' := ?_) #[true, true, true, true, true, true, true, true, true, true, true, false, false, false, false, false, false, false, false, false, false, false, false, false, false, false, false, false, false, false, false] rfl rfl (any_of HT_.out (by kernel_rfl)) (fun _ _ _ h => h) (Or.inl ⟨by rfl, ?_⟩) ?_ ?_
                                                  rotate_left
                                                  · intro w'
                                                    go_simp
                                                    with_reducible rfl
                                                  rotate_left
                                                  · simp only [Act.put, List.setIfInBounds_toArray, List.set_cons_zero, List.set_cons_succ, i64_w, i32_w]
                                                    rfl
                                                  refine pure_ (i := 11) (N := some 64) (v := ?_) (a' := ?_) #[true, true, true, true, true, true, true, true, true, true, true, true, false, false, false, false, false, false, false, false, false, false, false, false, false, false, false, false, false, false, false] rfl rfl (any_of HT_.out (by kernel_rfl)) (fun _ _ _ h => h) (Or.inl ⟨by rfl, ?_⟩) ?_ ?_
                                                  rotate_left
                                                  · intro w'
                                                    go_simp
                                                    with_reducible rfl
                                                  rotate_left
                                                  · simp only [Act.put, List.setIfInBounds_toArray, List.set_cons_zero, List.set_cons_succ, i64_w, i32_w]
                                                    rfl
                                                  refine pure_ (i := 12) (N := some 65) (v := ?_) (a' := ?_) #[true, true, true, true, true, true, true, true, true, true, true, true, true, false, false, false, false, false, false, false, false, false, false, false, false, false, false, false, false, false, false] rfl rfl (any_of HT_.out (by kernel_rfl)) (fun _ _ _ h => h) (Or.inl ⟨by rfl, ?_⟩) ?_ ?_
                                                  rotate_left
                                                  · intro w'
                                                    go_simp
                                                    with_reducible rfl
                                                  rotate_left
                                                  · simp only [Act.put, List.setIfInBounds_toArray, List.set_cons_zero, List.set_cons_succ, i64_w, i32_w]
                                                    rfl
                                                  refine pure_ (i := 13) (N := some 66) (v := ?_) (a' := ?_) #[true, true, true, true, true, true, true, true, true, true, true, true, true, true, false, false, false, false, false, false, false, false, false, false, false, false, false, false, false, false, false] rfl rfl (any_of HT_.out (by kernel_rfl)) (fun _ _ _ h => h) (Or.inl ⟨by rfl, ?_⟩) ?_ ?_
                                                  rotate_left
                                                  · intro w'
                                                    go_simp
                                                    with_reducible rfl
                                                  rotate_left
                                                  · simp only [Act.put, List.setIfInBounds_toArray, List.set_cons_zero, List.set_cons_succ, i64_w, i32_w]
                                                    rfl
                                                  refine pure_ (i := 14) (N := some 67) (v := ?_) (a' := ?_) #[true, true, true, true, true, true, true, true, true, true, true, true, true, true, true, false, false, false, false, false, false, false, false, false, false, false, false, false, false, false, false] rfl rfl (any_of HT_.out (by kernel_rfl)) (fun _ _ _ h => h) (Or.inl ⟨by rfl, ?_⟩) ?_ ?_
                                                  rotate_left
                                                  · intro w'
                                                    go_simp
                                                    with_reducible rfl
                                                  rotate_left
                                                  · simp only [Act.put, List.setIfInBounds_toArray, List.set_cons_zero, List.set_cons_succ, i64_w, i32_w]
                                                    rfl
                                                  refine pure_ (i := 15) (N := some 68) (v := ?_) (a' := ?_) #[true, true, true, true, true, true, true, true, true, true, true, true, true, true, true, true, false, false, false, false, false, false, false, false, false, false, false, false, false, false, false] rfl rfl (any_of HT_.out (by kernel_rfl)) (fun _ _ _ h => h) (Or.inl ⟨by rfl, ?_⟩) ?_ ?_
                                                  rotate_left
                                                  · intro w'
                                                    go_simp
                                                    with_reducible rfl
                                                  rotate_left
                                                  · simp only [Act.put, List.setIfInBounds_toArray, List.set_cons_zero, List.set_cons_succ, i64_w, i32_w]
                                                    rfl
                                                  refine pure_ (i := 16) (N := some 69) (v := ?_) (a' := ?_) #[true, true, true, true, true, true, true, true, true, true, true, true, true, true, true, true, true, false, false, false, false, false, false, false, false, false, false, false, false, false, false] rfl rfl (any_of HT_.out (by kernel_rfl)) (fun _ _ _ h => h) (Or.inl ⟨by rfl, ?_⟩) ?_ ?_
                                                  rotate_left
                                                  · intro w'
                                                    go_simp
                                                    with_reducible rfl
                                                  rotate_left
                                                  · simp only [Act.put, List.setIfInBounds_toArray, List.set_cons_zero, List.set_cons_succ, i64_w, i32_w]
                                                    rfl
                                                  refine pure_ (i := 17) (N := some 70) (v := ?_) (a' := ?_) #[true, true, true, true, true, true, true, true, true, true, true, true, true, true, true, true, true, true, false, false, false, false, false, false, false, false, false, false, false, false, false] rfl rfl (any_of HT_.out (by kernel_rfl)) (fun _ _ _ h => h) (Or.inl ⟨by rfl, ?_⟩) ?_ ?_
                                                  rotate_left
                                                  · intro w'
                                                    go_simp
                                                    with_reducible rfl
                                                  rotate_left
                                                  · simp only [Act.put, List.setIfInBounds_toArray, List.set_cons_zero, List.set_cons_succ, i64_w, i32_w]
                                                    rfl
                                                  refine pure_ (i := 18) (N := some 71) (v := ?_) (a' := ?_) #[true, true, true, true, true, true, true, true, true, true, true, true, true, true, true, true, true, true, true, false, false, false, false, false, false, false, false, false, false, false, false] rfl rfl (any_of HT_.out (by kernel_rfl)) (fun _ _ _ h => h) (Or.inl ⟨by rfl, ?_⟩) ?_ ?_
                                                  rotate_left
                                                  · intro w'
                                                    go_simp
                                                    with_reducible rfl
                                                  rotate_left
                                                  · simp only [Act.put, List.setIfInBounds_toArray, List.set_cons_zero, List.set_cons_succ, i64_w, i32_w]
                                                    rfl
                                                  refine pure_ (i := 19) (N := some 72) (v := ?_) (a' := ?_) #[true, true, true, true, true, true, true, true, true, true, true, true, true, true, true, true, true, true, true, true, false, false, false, false, false, false, false, false, false, false, false] rfl rfl (any_of HT_.out (by kernel_rfl)) (fun _ _ _ h => h) (Or.inl ⟨by rfl, ?_⟩) ?_ ?_
                                                  rotate_left
                                                  · intro w'
                                                    go_simp
                                                    with_reducible rfl
                                                  rotate_left
                                                  · simp only [Act.put, List.setIfInBounds_toArray, List.set_cons_zero, List.set_cons_succ, i64_w, i32_w]
                                                    rfl
                                                  refine pure_ (i := 20) (N := some 73) (v := ?_) (a' := ?_) #[true, true, true, true, true, true, true, true, true, true, true, true, true, true, true, true, true, true, true, true, true, false, false, false, false, false, false, false, false, false, false] rfl rfl (any_of HT_.out (by kernel_rfl)) (fun _ _ _ h => h) (Or.inl ⟨by rfl, ?_⟩) ?_ ?_
                                                  rotate_left
                                                  · intro w'
                                                    go_simp
                                                    with_reducible rfl
                                                  rotate_left
                                                  · simp only [Act.put, List.setIfInBounds_toArray, List.set_cons_zero, List.set_cons_succ, i64_w, i32_w]
                                                    rfl
                                                  refine pure_ (i := 21) (N := some 74) (v := ?_) (a' := ?_) #[true, true, true, true, true, true, true, true, true, true, true, true, true, true, true, true, true, true, true, true, true, true, false, false, false, false, false, false, false, false, false] rfl rfl (any_of HT_.out (by kernel_rfl)) (fun _ _ _ h => h) (Or.inl ⟨by rfl, ?_⟩) ?_ ?_
                                                  rotate_left
                                                  · intro w'
                                                    go_simp
                                                    with_reducible rfl
                                                  rotate_left
                                                  · simp only [Act.put, List.setIfInBounds_toArray, List.set_cons_zero, List.set_cons_succ, i64_w, i32_w]
                                                    rfl
                                                  refine pure_ (i := 22) (N := some 75) (v := ?_) (a' := ?_) #[true, true, true, true, true, true, true, true, true, true, true, true, true, true, true, true, true, true, true, true, true, true, true, false, false, false, false, false, false, false, false] rfl rfl (any_of HT_.out (by kernel_rfl)) (fun _ _ _ h => h) (Or.inl ⟨by rfl, ?_⟩) ?_ ?_
                                                  rotate_left
                                                  · intro w'
                                                    go_simp
                                                    with_reducible rfl
                                                  rotate_left
                                                  · simp only [Act.put, List.setIfInBounds_toArray, List.set_cons_zero, List.set_cons_succ, i64_w, i32_w]
                                                    rfl
                                                  refine pure_ (i := 24) (N := some 77) (v := ?_) (a' := ?_) #[true, true, true, true, true, true, true, true, true, true, true, true, true, true, true, true, true, true, true, true, true, true, true, false, true, false, false, false, false, false, false] rfl rfl (any_of HT_.out (by kernel_rfl)) (fun _ _ _ h => h) (Or.inl ⟨by rfl, ?_⟩) ?_ ?_
                                                  rotate_left
                                                  · intro w'
                                                    go_simp
                                                    with_reducible rfl
                                                  rotate_left
                                                  · simp only [Act.put, List.setIfInBounds_toArray, List.set_cons_zero, List.set_cons_succ, i64_w, i32_w]
                                                    rfl
                                                  refine pure_ (i := 25) (N := some 78) (v := ?_) (a' := ?_) #[true, true, true, true, true, true, true, true, true, true, true, true, true, true, true, true, true, true, true, true, true, true, true, false, true, true, false, false, false, false, false] rfl rfl (any_of HT_.out (by kernel_rfl)) (fun _ _ _ h => h) (Or.inl ⟨by rfl, ?_⟩) ?_ ?_
                                                  rotate_left
                                                  · intro w'
                                                    go_simp
                                                    with_reducible rfl
                                                  rotate_left
                                                  · simp only [Act.put, List.setIfInBounds_toArray, List.set_cons_zero, List.set_cons_succ, i64_w, i32_w]
                                                    rfl
                                                  refine pure_ (i := 27) (N := some 80) (v := ?_) (a' := ?_) #[true, true, true, true, true, true, true, true, true, true, true, true, true, true, true, true, true, true, true, true, true, true, true, false, true, true, false, true, false, false, false] rfl rfl (any_of HT_.out (by kernel_rfl)) (fun _ _ _ h => h) (Or.inl ⟨by rfl, ?_⟩) ?_ ?_
                                                  rotate_left
                                                  · intro w'
                                                    go_simp
                                                    with_reducible rfl
                                                  rotate_left
                                                  · simp only [Act.put, List.setIfInBounds_toArray, List.set_cons_zero, List.set_cons_succ, i64_w, i32_w]
                                                    rfl
                                                  refine take_ (i := 23) (N := some 76) (v := ?_) (a' := ?_) #[true, true, true, true, true, true, true, true, true, true, true, true, true, true, true, true, true, true, true, true, true, true, true, true, true, true, false, true, false, false, false] rfl rfl (take_ofW HT_.out HW_.out (by kernel_rfl)) (fun _ _ _ h => h) (Or.inl ⟨by rfl, ?_⟩) hHeld ?_ ?_
                                                  rotate_left
                                                  · rintro w' ⟨s0, s1⟩
                                                    go_simp
                                                    with_reducible rfl
                                                  rotate_left
                                                  · simp only [Act.put, List.setIfInBounds_toArray, List.set_cons_zero, List.set_cons_succ, i64_w, i32_w]
                                                    rfl
                                                  refine take_ (i := 26) (N := some 79) (v := ?_) (a' := ?_) #[true, true, true, true, true, true, true, true, true, true, true, true, true, true, true, true, true, true, true, true, true, true, true, true, true, true, true, true, false, false, false] rfl rfl (take_ofW HT_.out HW_.out (by kernel_rfl)) (fun _ _ _ h => h) (Or.inl ⟨by rfl, ?_⟩) hHeld ?_ ?_
                                                  rotate_left
                                                  · rintro w' ⟨s0, s1⟩
                                                    go_simp
                                                    with_reducible rfl
                                                  rotate_left
                                                  · simp only [Act.put, List.setIfInBounds_toArray, List.set_cons_zero, List.set_cons_succ, i64_w, i32_w]
                                                    rfl
                                                  refine pure_ (i := 28) (N := some 81) (v := ?_) (a' := ?_) #[true, true, true, true, true, true, true, true, true, true, true, true, true, true, true, true, true, true, true, true, true, true, true, true, true, true, true, true, true, false, false] rfl rfl (any_of HT_.out (by kernel_rfl)) (fun _ _ _ h => h) (Or.inl ⟨by rfl, ?_⟩) ?_ ?_
                                                  rotate_left
                                                  · intro w'
                                                    go_simp
                                                    with_reducible rfl
                                                  rotate_left
                                                  · simp only [Act.put, List.setIfInBounds_toArray, List.set_cons_zero, List.set_cons_succ, i64_w, i32_w]
                                                    rfl
                                                  refine pure_ (i := 29) (N := some 82) (v := ?_) (a' := ?_) #[true, true, true, true, true, true, true, true, true, true, true, true, true, true, true, true, true, true, true, true, true, true, true, true, true, true, true, true, true, true, false] rfl rfl (any_of HT_.out (by kernel_rfl)) (fun _ _ _ h => h) (Or.inl ⟨by rfl, ?_⟩) ?_ ?_
                                                  rotate_left
                                                  · intro w'
                                                    go_simp
                                                    with_reducible rfl
                                                  rotate_left
                                                  · simp only [Act.put, List.setIfInBounds_toArray, List.set_cons_zero, List.set_cons_succ, i64_w, i32_w]
                                                    rfl
                                                  refine pure_ (i := 30) (N := some 83) (v := ?_) (a' := ?_) #[true, true, true, true, true, true, true, true, true, true, true, true, true, true, true, true, true, true, true, true, true, true, true, true, true, true, true, true, true, true, true] rfl rfl (any_of HT_.out (by kernel_rfl)) (fun _ _ _ h => h) (Or.inl ⟨by rfl, ?_⟩) ?_ ?_
                                                  rotate_left
                                                  · intro w'
                                                    go_simp
                                                    with_reducible rfl
                                                  rotate_left
                                                  · simp only [Act.put, List.setIfInBounds_toArray, List.set_cons_zero, List.set_cons_succ, i64_w, i32_w]
                                                    rfl
                                                  refine done_ (done_of HT_.out (by kernel_rfl)) ?_
                                                  have p207 : 0 ≤ (0 : Int) := (by omega)
                                                  have q207 : 0 < (l0.length : Int) := of_decide_eq_true (by first | (with_reducible assumption) | assumption)
                                                  obtain ⟨ad207, e207, hx207_0⟩ := Kd.at_int HR0.out 0 p207 q207
                                                  cases e207
                                                  have qi207 : (0 < l0.length) = True := eq_true (by omega)
                                                  (try rw [show ((0 : Int)).toNat = 0 from rfl] at hx207_0)
                                                  (try rw [Addr.add_zero'] at hx207_0)
                                                  replace hx207_0 := (HB.out.cell (World.block_lt_of_cell? w _ hx207_0)).trans hx207_0
                                                  replace p207 := eq_true p207
                                                  replace q207 := eq_true q207
                                                  try go_wp2_with (first | ((with_reducible refine gate_callee (f := 13) rfl ?_); refine goesL_ (some 87) rfl rfl Try.func13 (by kernel_rfl) rfl #[.int .i64 (rd l0 0)] rfl (by (try simp only [List.map_toArray, List.map_cons, List.map_nil]); first | done | rfl | (simp only [List.length_drop, List.length_take]; rfl)) ?_; (with_reducible refine (estreatref01_Zig.calls (rd l0 0) t208 _ A25.out).mono ?_); rintro e w' ⟨rfl, ⟨nd, rfl⟩⟩; refine ⟨_, rfl, ?_⟩) | ((with_reducible refine gate_callee (f := 12) rfl ?_); refine goesL_ (some 88) rfl rfl Try.func12 (by kernel_rfl) rfl #[.int .u64 t208] rfl (by (try simp only [List.map_toArray, List.map_cons, List.map_nil]); first | done | rfl | (simp only [List.length_drop, List.length_take]; rfl)) ?_; (with_reducible refine (estreatref01_Var.calls k1 t208 t209 _ A26.out).mono ?_); rintro e w51 ⟨v210, rfl, ho0, hb⟩; refine ⟨_, rfl, ?_⟩; have n0_ := Aside0.mk (Kd.R_below (by (with_reducible repeat (first | apply Kd.R_alloc | apply Kd.R_drewN | apply Kd.R_drew)); exact HO_5.out) hb); have n1_ := Aside0.mk (Kd.R_below (by (with_reducible repeat (first | apply Kd.R_alloc | apply Kd.R_drewN | apply Kd.R_drew)); exact HO193.out) hb); have n2_ := Aside0.mk (Kd.R_below (by (with_reducible repeat (first | apply Kd.R_alloc | apply Kd.R_drewN | apply Kd.R_drew)); exact HO196.out) hb); have n3_ := Aside0.mk (Kd.R_elder' (by (with_reducible repeat (first | apply Kd.R_alloc | apply Kd.R_drewN | apply Kd.R_drew)); exact HO200.out) (Kd.R_base ho0) hb); have n4_ := Aside0.mk (Kd.R_elder' (by (with_reducible repeat (first | apply Kd.R_alloc | apply Kd.R_drewN | apply Kd.R_drew)); exact HO204.out) (Kd.R_base ho0) hb); have n5_ := Aside0.mk (Kd.R_lower (Kd.R_new' (Kd.R_new' ho0 (Kd.R_lt (by (with_reducible repeat (first | apply Kd.R_alloc | apply Kd.R_drewN | apply Kd.R_drew)); exact HO200.out))) (Kd.R_lt (by (with_reducible repeat (first | apply Kd.R_alloc | apply Kd.R_drewN | apply Kd.R_drew)); exact HO204.out))) (below_size (by repeat (first | (with_reducible first | exact HB.out | apply below_alloc | apply pw_below_drewN | apply below_drew1) | exact HB.out)))); have n6_ := Aside0.mk (below_step (by repeat (first | (with_reducible first | exact HB.out | apply below_alloc | apply pw_below_drewN | apply below_drew1) | exact HB.out)) hb); clear HO_5; clear HO193; clear HO196; clear HO200; clear HO204; clear HB; have HO_5 := n0_; have HO193 := n1_; have HO196 := n2_; have HO200 := n3_; have HO204 := n4_; have HO211 := n5_; have HB := n6_; clear n0_ n1_ n2_ n3_ n4_ n5_ n6_; (try clear hb); (try clear hb2); (try clear hk); (try clear hi); (try clear ho0); have p212 : 0 ≤ (0 : Int) := (by omega); have q212 : 0 < (x5_1.length : Int) := of_decide_eq_true (by first | (with_reducible assumption) | assumption); obtain ⟨ad212, e212, hx212_0⟩ := Kd.at_int (Kd.R_reads' HO_5.out).2.2 0 p212 q212; cases e212; have qi212 : (0 < x5_1.length) = True := eq_true (by omega); (try rw [show ((0 : Int)).toNat = 0 from rfl] at hx212_0); (try rw [Addr.add_zero'] at hx212_0); replace p212 := eq_true p212; replace q212 := eq_true q212) | ((with_reducible refine gate_callee (f := 13) rfl ?_); refine goesL_ (some 92) rfl rfl Try.func13 (by kernel_rfl) rfl #[.int .i64 (rd x5_1 0)] rfl (by (try simp only [List.map_toArray, List.map_cons, List.map_nil]); first | done | rfl | (simp only [List.length_drop, List.length_take]; rfl)) ?_; (with_reducible refine (estreatref01_Zig.calls (rd x5_1 0) t213 _ A28.out).mono ?_); rintro e w' ⟨rfl, ⟨nd, rfl⟩⟩; refine ⟨_, rfl, ?_⟩) | ((with_reducible refine gate_callee (f := 12) rfl ?_); refine goesL_ (some 93) rfl rfl Try.func12 (by kernel_rfl) rfl #[.int .u64 t213] rfl (by (try simp only [List.map_toArray, List.map_cons, List.map_nil]); first | done | rfl | (simp only [List.length_drop, List.length_take]; rfl)) ?_; (with_reducible refine (estreatref01_Var.calls k1 t213 t214 _ A29.out).mono ?_); rintro e w52 ⟨v215, rfl, ho0, hb⟩; refine ⟨_, rfl, ?_⟩; have n0_ := Aside0.mk (Kd.R_below (by (with_reducible repeat (first | apply Kd.R_alloc | apply Kd.R_drewN | apply Kd.R_drew)); exact HO_5.out) hb); have n1_ := Aside0.mk (Kd.R_below (by (with_reducible repeat (first | apply Kd.R_alloc | apply Kd.R_drewN | apply Kd.R_drew)); exact HO193.out) hb); have n2_ := Aside0.mk (Kd.R_below (by (with_reducible repeat (first | apply Kd.R_alloc | apply Kd.R_drewN | apply Kd.R_drew)); exact HO196.out) hb); have n3_ := Aside0.mk (Kd.R_elder' (by (with_reducible repeat (first | apply Kd.R_alloc | apply Kd.R_drewN | apply Kd.R_drew)); exact HO200.out) (Kd.R_base ho0) hb); have n4_ := Aside0.mk (Kd.R_elder' (by (with_reducible repeat (first | apply Kd.R_alloc | apply Kd.R_drewN | apply Kd.R_drew)); exact HO204.out) (Kd.R_base ho0) hb); have n5_ := Aside0.mk (Kd.R_elder' (by (with_reducible repeat (first | apply Kd.R_alloc | apply Kd.R_drewN | apply Kd.R_drew)); exact HO211.out) (Kd.R_base ho0) hb); have n6_ := Aside0.mk (Kd.R_lower (Kd.R_new' (Kd.R_new' (Kd.R_new' ho0 (Kd.R_lt (by (with_reducible repeat (first | apply Kd.R_alloc | apply Kd.R_drewN | apply Kd.R_drew)); exact HO200.out))) (Kd.R_lt (by (with_reducible repeat (first | apply Kd.R_alloc | apply Kd.R_drewN | apply Kd.R_drew)); exact HO204.out))) (Kd.R_lt (by (with_reducible repeat (first | apply Kd.R_alloc | apply Kd.R_drewN | apply Kd.R_drew)); exact HO211.out))) (below_size (by repeat (first | (with_reducible first | exact HB.out | apply below_alloc | apply pw_below_drewN | apply below_drew1) | exact HB.out)))); have n7_ := Aside0.mk (below_step (by repeat (first | (with_reducible first | exact HB.out | apply below_alloc | apply pw_below_drewN | apply below_drew1) | exact HB.out)) hb); clear HO_5; clear HO193; clear HO196; clear HO200; clear HO204; clear HO211; clear HB; have HO_5 := n0_; have HO193 := n1_; have HO196 := n2_; have HO200 := n3_; have HO204 := n4_; have HO211 := n5_; have HO216 := n6_; have HB := n7_; clear n0_ n1_ n2_ n3_ n4_ n5_ n6_ n7_; (try clear hb); (try clear hb2); (try clear hk); (try clear hi); (try clear ho0)))
                                                  have n0_ := Aside0.mk (Kd.R_drew HO_5.out)
                                                  have n1_ := Aside0.mk (Kd.R_drew HO193.out)
                                                  have n2_ := Aside0.mk (Kd.R_drew HO196.out)
                                                  have n3_ := Aside0.mk (Kd.R_drew HO200.out)
                                                  have n4_ := Aside0.mk (Kd.R_drew HO204.out)
                                                  have n5_ := Aside0.mk (Kd.R_drew HO211.out)
                                                  have n6_ := Aside0.mk (Kd.R_drew HO216.out)
                                                  have n7_ := Aside0.mk (below_drew1 HB.out)
                                                  clear HO_5
                                                  clear HO193
                                                  clear HO196
                                                  clear HO200
                                                  clear HO204
                                                  clear HO211
                                                  clear HO216
                                                  clear HB
                                                  have HO_5 := n0_
                                                  have HO193 := n1_
                                                  have HO196 := n2_
                                                  have HO200 := n3_
                                                  have HO204 := n4_
                                                  have HO211 := n5_
                                                  have HO216 := n6_
                                                  have HB := n7_
                                                  clear n0_ n1_ n2_ n3_ n4_ n5_ n6_ n7_
                                                  have q54 : (1 : Int) ≤ ((t191.length : Int) : Int) := of_decide_eq_true (by first | (with_reducible assumption) | assumption)
                                                  obtain ⟨i054, hi054, _, hsz54, _⟩ := info_parts info2
                                                  have hroom54 : t191.length ≤ co49 := (Kd.R_reads' HO193.out).2.1
                                                  have hC54 : Kd.C (Kd.int .i64) _ (some ad206) t191.length t191 := (Kd.R_reads' HO193.out).2.2
                                                  have hcut54 := cut_from (P := Try.prog) 22 2 .i64 Try.underlying22 hi054 1 hsz54 (some ad206) t191.length co49 1 (by omega) q54
                                                  have hr54 := Kd.C_drop (m := (1 : Int).toNat) (c := co49) hC54 (by omega) hroom54
                                                  obtain ⟨A54, hA54⟩ : ∃ A1, A1 = (if co49 = (1 : Int).toNat then (some ad206) else ((some ad206) : Option Addr).map (·.add ((1 : Int).toNat * 1))) := ⟨_, rfl⟩
                                                  obtain ⟨c54, hc54⟩ : ∃ c1, c1 = co49 - (1 : Int).toNat := ⟨_, rfl⟩
                                                  have hy54 : y217.length = t191.length - (1 : Int).toNat := (by rw [Ny217.out, List.length_drop] <;> omega)
                                                  rw [show (t191).drop (1 : Int).toNat = y217 from Ny217.out.symm] at hr54
                                                  replace hr54 : Kd.C (Kd.int .i64) _ A54 y217.length y217 := (by rw [hA54]; exact hr54)
                                                  rw [← hy54, ← hA54, ← hc54] at hcut54
                                                  have HR220 := Aside0.mk hr54
                                                  have HC220 := Aside0.mk (show y217.length ≤ c54 from by rw [hy54, hc54]; exact Nat.sub_le_sub_right hroom54 _)
                                                  clear hr54 hC54 hroom54 hi054 hsz54 hc54
                                                  have KY54 := Aside0.mk hy54
                                                  have KA54 := Aside0.mk hA54
                                                  clear hy54 hA54
                                                  have KL54 := Aside0.mk (show 1 ≤ t191.length from by omega)
                                                  replace q54 := eq_true q54
                                                  have q55 : (1 : Int) ≤ ((t194.length : Int) : Int) := of_decide_eq_true (by first | (with_reducible assumption) | assumption)
                                                  obtain ⟨i055, hi055, _, hsz55, _⟩ := info_parts info2
                                                  have hroom55 : t194.length ≤ co50 := (Kd.R_reads' HO196.out).2.1
                                                  have hC55 : Kd.C (Kd.int .i64) _ (some ad205) t194.length t194 := (Kd.R_reads' HO196.out).2.2
                                                  have hcut55 := cut_from (P := Try.prog) 22 2 .i64 Try.underlying22 hi055 1 hsz55 (some ad205) t194.length co50 1 (by omega) q55
                                                  have hr55 := Kd.C_drop (m := (1 : Int).toNat) (c := co50) hC55 (by omega) hroom55
                                                  obtain ⟨A55, hA55⟩ : ∃ A1, A1 = (if co50 = (1 : Int).toNat then (some ad205) else ((some ad205) : Option Addr).map (·.add ((1 : Int).toNat * 1))) := ⟨_, rfl⟩
                                                  obtain ⟨c55, hc55⟩ : ∃ c1, c1 = co50 - (1 : Int).toNat := ⟨_, rfl⟩
                                                  have hy55 : y221.length = t194.length - (1 : Int).toNat := (by rw [Ny221.out, List.length_drop] <;> omega)
                                                  rw [show (t194).drop (1 : Int).toNat = y221 from Ny221.out.symm] at hr55
                                                  replace hr55 : Kd.C (Kd.int .i64) _ A55 y221.length y221 := (by rw [hA55]; exact hr55)
                                                  rw [← hy55, ← hA55, ← hc55] at hcut55
                                                  have HR224 := Aside0.mk hr55
                                                  have HC224 := Aside0.mk (show y221.length ≤ c55 from by rw [hy55, hc55]; exact Nat.sub_le_sub_right hroom55 _)
                                                  clear hr55 hC55 hroom55 hi055 hsz55 hc55
                                                  have KY55 := Aside0.mk hy55
                                                  have KA55 := Aside0.mk hA55
                                                  clear hy55 hA55
                                                  have KL55 := Aside0.mk (show 1 ≤ t194.length from by omega)
                                                  replace q55 := eq_true q55
                                                  refine start_ (n := 34) (S := fun w' => True) (ds := []) #[false, false, false, false, false, false, false, false, false, false, false, false, false, false, false, false, false, false, false, false, false, false, false, false, false, false, false, false, false, false, false, false, false, false] (by kernel_rfl) rfl rfl trivial (fun hHeld => ?_); refine with_tabW estreatlaw10_DeltaShift.tab15 estreatlaw10_DeltaShift.bits15 (fun HT_ HW_ => ?_)
                                                  generalize w52.drew = w53 at HO_5 HO193 HO196 HO200 HO204 HO211 HO216 HB HR220 HR224 hHeld ⊢
                                                  refine pure_ (i := 0) (N := some 94) (v := ?_) (a' := ?_) #[true, false, false, false, false, false, false, false, false, false, false, false, false, false, false, false, false, false, false, false, false, false, false, false, false, false, false, false, false, false, false, false, false, false] rfl rfl (any_of HT_.out (by kernel_rfl)) (fun _ _ _ h => h) (Or.inl ⟨by rfl, ?_⟩) ?_ ?_
                                                  rotate_left
                                                  · intro w'
                                                    go_simp
                                                    with_reducible rfl
                                                  rotate_left
                                                  · simp only [Act.put, List.setIfInBounds_toArray, List.set_cons_zero, List.set_cons_succ, i64_w, i32_w]
                                                    rfl
                                                  refine pure_ (i := 1) (N := some 95) (v := ?_) (a' := ?_) #[true, true, false, false, false, false, false, false, false, false, false, false, false, false, false, false, false, false, false, false, false, false, false, false, false, false, false, false, false, false, false, false, false, false] rfl rfl (any_of HT_.out (by kernel_rfl)) (fun _ _ _ h => h) (Or.inl ⟨by rfl, ?_⟩) ?_ ?_
                                                  rotate_left
                                                  · intro w'
                                                    go_simp
                                                    with_reducible rfl
                                                  rotate_left
                                                  · simp only [Act.put, List.setIfInBounds_toArray, List.set_cons_zero, List.set_cons_succ, i64_w, i32_w]
                                                    rfl
                                                  refine pure_ (i := 2) (N := some 96) (v := ?_) (a' := ?_) #[true, true, true, false, false, false, false, false, false, false, false, false, false, false, false, false, false, false, false, false, false, false, false, false, false, false, false, false, false, false, false, false, false, false] rfl rfl (any_of HT_.out (by kernel_rfl)) (fun _ _ _ h => h) (Or.inl ⟨by rfl, ?_⟩) ?_ ?_
                                                  rotate_left
                                                  · intro w'
                                                    go_simp
                                                    with_reducible rfl
                                                  rotate_left
                                                  · simp only [Act.put, List.setIfInBounds_toArray, List.set_cons_zero, List.set_cons_succ, i64_w, i32_w]
                                                    rfl
                                                  refine pure_ (i := 3) (N := some 97) (v := ?_) (a' := ?_) #[true, true, true, true, false, false, false, false, false, false, false, false, false, false, false, false, false, false, false, false, false, false, false, false, false, false, false, false, false, false, false, false, false, false] rfl rfl (any_of HT_.out (by kernel_rfl)) (fun _ _ _ h => h) (Or.inl ⟨by rfl, ?_⟩) ?_ ?_
                                                  rotate_left
                                                  · intro w'
                                                    go_simp
                                                    with_reducible rfl
                                                  rotate_left
                                                  · simp only [Act.put, List.setIfInBounds_toArray, List.set_cons_zero, List.set_cons_succ, i64_w, i32_w]
                                                    rfl
                                                  refine one_ (i := 4) (N := some 98) #[true, true, true, true, true, false, false, false, false, false, false, false, false, false, false, false, false, false, false, false, false, false, false, false, false, false, false, false, false, false, false, false, false, false] rfl rfl (one_of HT_.out (by kernel_rfl)) (by decide) (fun K hK => ?_)
                                                  refine goes_ Try.func14 (by kernel_rfl) rfl #[.slice A54 y217.length c54, .slice A55 y221.length c55] (by rfl) rfl rfl (by (try simp only [List.map_toArray, List.map_cons, List.map_nil]); first | done | rfl | (simp only [List.length_drop, List.length_take]; rfl)) ?_
                                                  with_reducible refine (estreatref08_Same.calls k1 _ _ y217 _ _ y221 true _ ?side1 ?side2 ?side3 ?side4 A32.out).mono ?_
                                                  (case side1 => repeat (first | exact (by repeat (first | (with_reducible exact HR220.out) | (with_reducible refine Kd.C_alloc ?_ _) | (with_reducible refine Kd.C_drewN ?_ _) | (with_reducible refine Kd.C_drew ?_) | exact HR220.out)) | (with_reducible refine Kd.C_alloc ?_ _) | (with_reducible refine Kd.C_drewN ?_ _) | (with_reducible refine Kd.C_drew ?_)))
                                                  (case side2 => exact HC220.out)
                                                  (case side3 => repeat (first | exact (by repeat (first | (with_reducible exact HR224.out) | (with_reducible refine Kd.C_alloc ?_ _) | (with_reducible refine Kd.C_drewN ?_ _) | (with_reducible refine Kd.C_drew ?_) | exact HR224.out)) | (with_reducible refine Kd.C_alloc ?_ _) | (with_reducible refine Kd.C_drewN ?_ _) | (with_reducible refine Kd.C_drew ?_)))
                                                  (case side4 => exact HC224.out)
                                                  rintro e w' ⟨rfl, ⟨nd, rfl⟩⟩
                                                  refine ⟨_, rfl, ?_⟩
                                                  obtain ⟨Ao56, co56, eo56⟩ := Kd.R_slice HO200.out
                                                  (first | subst eo56 | (injection eo56 with f1_ f2_ f3_; have f4_ := f1_.symm; have f5_ := f3_.symm; clear f1_ f2_ f3_; subst f4_; subst f5_))
                                                  obtain ⟨Ao57, co57, eo57⟩ := Kd.R_slice HO211.out
                                                  (first | subst eo57 | (injection eo57 with f1_ f2_ f3_; have f4_ := f1_.symm; have f5_ := f3_.symm; clear f1_ f2_ f3_; subst f4_; subst f5_))
                                                  obtain ⟨Ao58, co58, eo58⟩ := Kd.R_slice HO204.out
                                                  (first | subst eo58 | (injection eo58 with f1_ f2_ f3_; have f4_ := f1_.symm; have f5_ := f3_.symm; clear f1_ f2_ f3_; subst f4_; subst f5_))
                                                  obtain ⟨Ao59, co59, eo59⟩ := Kd.R_slice HO216.out
                                                  (first | subst eo59 | (injection eo59 with f1_ f2_ f3_; have f4_ := f1_.symm; have f5_ := f3_.symm; clear f1_ f2_ f3_; subst f4_; subst f5_))
                                                  have q60 : ((t209.length : Int) : Int) ≤ ((t197.length : Int) : Int) := of_decide_eq_true (by first | (with_reducible assumption) | assumption)
                                                  obtain ⟨i060, hi060, _, hsz60, _⟩ := info_parts info5
                                                  have hroom60 : t197.length ≤ co56 := (Kd.R_reads' HO200.out).2.1
                                                  have hC60 : Kd.C (Kd.int .u8) _ Ao56 t197.length t197 := (Kd.R_reads' HO200.out).2.2
                                                  have q060 : (0 : Int) ≤ ((t209.length : Int) : Int) := of_decide_eq_true (by first | (with_reducible assumption) | assumption)
                                                  have hcut60 := cut_from (P := Try.prog) 25 5 .i64 Try.underlying25 hi060 1 hsz60 Ao56 t197.length co56 (t209.length : Int) q060 q60
                                                  have hr60 := Kd.C_drop (m := ((t209.length : Int) : Int).toNat) (c := co56) hC60 (by omega) hroom60
                                                  obtain ⟨A60, hA60⟩ : ∃ A1, A1 = (if co56 = ((t209.length : Int) : Int).toNat then Ao56 else (Ao56 : Option Addr).map (·.add (((t209.length : Int) : Int).toNat * 1))) := ⟨_, rfl⟩
                                                  obtain ⟨c60, hc60⟩ : ∃ c1, c1 = co56 - ((t209.length : Int) : Int).toNat := ⟨_, rfl⟩
                                                  have hy60 : y226.length = t197.length - ((t209.length : Int) : Int).toNat := (by rw [Ny226.out, List.length_drop] <;> omega)
                                                  rw [show (t197).drop ((t209.length : Int) : Int).toNat = y226 from Ny226.out.symm] at hr60
                                                  replace hr60 : Kd.C (Kd.int .u8) _ A60 y226.length y226 := (by rw [hA60]; exact hr60)
                                                  rw [← hy60, ← hA60, ← hc60] at hcut60
                                                  have HR229 := Aside0.mk hr60
                                                  have HC229 := Aside0.mk (show y226.length ≤ c60 from by rw [hy60, hc60]; exact Nat.sub_le_sub_right hroom60 _)
                                                  clear hr60 hC60 hroom60 hi060 hsz60 hc60
                                                  have KY60 := Aside0.mk hy60
                                                  have KA60 := Aside0.mk hA60
                                                  clear hy60 hA60
                                                  have KL60 := Aside0.mk (show ((t209.length : Int) : Int).toNat ≤ t197.length from by omega)
                                                  replace q60 := eq_true q60
                                                  have q61 : ((t214.length : Int) : Int) ≤ ((t201.length : Int) : Int) := of_decide_eq_true (by first | (with_reducible assumption) | assumption)
                                                  obtain ⟨i061, hi061, _, hsz61, _⟩ := info_parts info5
                                                  have hroom61 : t201.length ≤ co58 := (Kd.R_reads' HO204.out).2.1
                                                  have hC61 : Kd.C (Kd.int .u8) _ Ao58 t201.length t201 := (Kd.R_reads' HO204.out).2.2
                                                  have q061 : (0 : Int) ≤ ((t214.length : Int) : Int) := of_decide_eq_true (by first | (with_reducible assumption) | assumption)
                                                  have hcut61 := cut_from (P := Try.prog) 25 5 .i64 Try.underlying25 hi061 1 hsz61 Ao58 t201.length co58 (t214.length : Int) q061 q61
                                                  have hr61 := Kd.C_drop (m := ((t214.length : Int) : Int).toNat) (c := co58) hC61 (by omega) hroom61
                                                  obtain ⟨A61, hA61⟩ : ∃ A1, A1 = (if co58 = ((t214.length : Int) : Int).toNat then Ao58 else (Ao58 : Option Addr).map (·.add (((t214.length : Int) : Int).toNat * 1))) := ⟨_, rfl⟩
                                                  obtain ⟨c61, hc61⟩ : ∃ c1, c1 = co58 - ((t214.length : Int) : Int).toNat := ⟨_, rfl⟩
                                                  have hy61 : y230.length = t201.length - ((t214.length : Int) : Int).toNat := (by rw [Ny230.out, List.length_drop] <;> omega)
                                                  rw [show (t201).drop ((t214.length : Int) : Int).toNat = y230 from Ny230.out.symm] at hr61
                                                  replace hr61 : Kd.C (Kd.int .u8) _ A61 y230.length y230 := (by rw [hA61]; exact hr61)
                                                  rw [← hy61, ← hA61, ← hc61] at hcut61
                                                  have HR233 := Aside0.mk hr61
                                                  have HC233 := Aside0.mk (show y230.length ≤ c61 from by rw [hy61, hc61]; exact Nat.sub_le_sub_right hroom61 _)
                                                  clear hr61 hC61 hroom61 hi061 hsz61 hc61
                                                  have KY61 := Aside0.mk hy61
                                                  have KA61 := Aside0.mk hA61
                                                  clear hy61 hA61
                                                  have KL61 := Aside0.mk (show ((t214.length : Int) : Int).toNat ≤ t201.length from by omega)
                                                  replace q61 := eq_true q61
                                                  refine hK.out _ _ trivial (fun hHeld => ?_)
                                                  clear hK K
                                                  refine norm_ (a' := ?_) ?_ ?_
                                                  rotate_left
                                                  · show Act.put _ (some 98) _ = _
                                                    simp only [Act.put, List.setIfInBounds_toArray, List.set_cons_zero, List.set_cons_succ, i64_w, i32_w]
                                                    rfl
                                                  refine pure_ (i := 5) (N := some 99) (v := ?_) (a' := ?_) #[true, true, true, true, true, true, false, false, false, false, false, false, false, false, false, false, false, false, false, false, false, false, false, false, false, false, false, false, false, false, false, false, false, false] rfl rfl (any_of HT_.out (by kernel_rfl)) (fun _ _ _ h => h) (Or.inl ⟨by rfl, ?_⟩) ?_ ?_
                                                  rotate_left
                                                  · intro w'
                                                    go_simp
                                                    with_reducible rfl
                                                  rotate_left
                                                  · simp only [Act.put, List.setIfInBounds_toArray, List.set_cons_zero, List.set_cons_succ, i64_w, i32_w]
                                                    rfl
                                                  refine pure_ (i := 6) (N := some 100) (v := ?_) (a' := ?_) #[true, true, true, true, true, true, true, false, false, false, false, false, false, false, false, false, false, false, false, false, false, false, false, false, false, false, false, false, false, false, false, false, false, false] rfl rfl (any_of HT_.out (by kernel_rfl)) (fun _ _ _ h => h) (Or.inl ⟨by rfl, ?_⟩) ?_ ?_
                                                  rotate_left
                                                  · intro w'
                                                    go_simp
                                                    with_reducible rfl
                                                  rotate_left
                                                  · simp only [Act.put, List.setIfInBounds_toArray, List.set_cons_zero, List.set_cons_succ, i64_w, i32_w]
                                                    rfl
                                                  refine pure_ (i := 7) (N := some 101) (v := ?_) (a' := ?_) #[true, true, true, true, true, true, true, true, false, false, false, false, false, false, false, false, false, false, false, false, false, false, false, false, false, false, false, false, false, false, false, false, false, false] rfl rfl (any_of HT_.out (by kernel_rfl)) (fun _ _ _ h => h) (Or.inl ⟨by rfl, ?_⟩) ?_ ?_
                                                  rotate_left
                                                  · intro w'
                                                    go_simp
                                                    with_reducible rfl
                                                  rotate_left
                                                  · simp only [Act.put, List.setIfInBounds_toArray, List.set_cons_zero, List.set_cons_succ, i64_w, i32_w]
                                                    rfl
                                                  refine pure_ (i := 8) (N := some 102) (v := ?_) (a' := ?_) #[true, true, true, true, true, true, true, true, true, false, false, false, false, false, false, false, false, false, false, false, false, false, false, false, false, false, false, false, false, false, false, false, false, false] rfl rfl (any_of HT_.out (by kernel_rfl)) (fun _ _ _ h => h) (Or.inl ⟨by rfl, ?_⟩) ?_ ?_
                                                  rotate_left
                                                  · intro w'
                                                    go_simp
                                                    with_reducible rfl
                                                  rotate_left
                                                  · simp only [Act.put, List.setIfInBounds_toArray, List.set_cons_zero, List.set_cons_succ, i64_w, i32_w]
                                                    rfl
                                                  refine pure_ (i := 9) (N := some 103) (v := ?_) (a' := ?_) #[true, true, true, true, true, true, true, true, true, true, false, false, false, false, false, false, false, false, false, false, false, false, false, false, false, false, false, false, false, false, false, false, false, false] rfl rfl (any_of HT_.out (by kernel_rfl)) (fun _ _ _ h => h) (Or.inl ⟨by rfl, ?_⟩) ?_ ?_
                                                  rotate_left
                                                  · intro w'
                                                    go_simp
                                                    with_reducible rfl
                                                  rotate_left
                                                  · simp only [Act.put, List.setIfInBounds_toArray, List.set_cons_zero, List.set_cons_succ, i64_w, i32_w]
                                                    rfl
                                                  refine pure_ (i := 10) (N := some 104) (v := ?_) (a' := ?_) #[true, true, true, true, true, true, true, true, true, true, true, false, false, false, false, false, false, false, false, false, false, false, false, false, false, false, false, false, false, false, false, false, false, false] rfl rfl (any_of HT_.out (by kernel_rfl)) (fun _ _ _ h => h) (Or.inl ⟨by rfl, ?_⟩) ?_ ?_
                                                  rotate_left
                                                  · intro w'
                                                    go_simp
                                                    with_reducible rfl
                                                  rotate_left
                                                  · simp only [Act.put, List.setIfInBounds_toArray, List.set_cons_zero, List.set_cons_succ, i64_w, i32_w]
                                                    rfl
                                                  refine pure_ (i := 11) (N := some 105) (v := ?_) (a' := ?_) #[true, true, true, true, true, true, true, true, true, true, true, true, false, false, false, false, false, false, false, false, false, false, false, false, false, false, false, false, false, false, false, false, false, false] rfl rfl (any_of HT_.out (by kernel_rfl)) (fun _ _ _ h => h) (Or.inl ⟨by rfl, ?_⟩) ?_ ?_
                                                  rotate_left
                                                  · intro w'
                                                    go_simp
                                                    with_reducible rfl
                                                  rotate_left
                                                  · simp only [Act.put, List.setIfInBounds_toArray, List.set_cons_zero, List.set_cons_succ, i64_w, i32_w]
                                                    rfl
                                                  refine pure_ (i := 12) (N := some 106) (v := ?_) (a' := ?_) #[true, true, true, true, true, true, true, true, true, true, true, true, true, false, false, false, false, false, false, false, false, false, false, false, false, false, false, false, false, false, false, false, false, false] rfl rfl (any_of HT_.out (by kernel_rfl)) (fun _ _ _ h => h) (Or.inl ⟨by rfl, ?_⟩) ?_ ?_
                                                  rotate_left
                                                  · intro w'
                                                    go_simp
                                                    with_reducible rfl
                                                  rotate_left
                                                  · simp only [Act.put, List.setIfInBounds_toArray, List.set_cons_zero, List.set_cons_succ, i64_w, i32_w]
                                                    rfl
                                                  refine pure_ (i := 13) (N := some 107) (v := ?_) (a' := ?_) #[true, true, true, true, true, true, true, true, true, true, true, true, true, true, false, false, false, false, false, false, false, false, false, false, false, false, false, false, false, false, false, false, false, false] rfl rfl (any_of HT_.out (by kernel_rfl)) (fun _ _ _ h => h) (Or.inl ⟨by rfl, ?_⟩) ?_ ?_
                                                  rotate_left
                                                  · intro w'
                                                    go_simp
                                                    with_reducible rfl
                                                  rotate_left
                                                  · simp only [Act.put, List.setIfInBounds_toArray, List.set_cons_zero, List.set_cons_succ, i64_w, i32_w]
                                                    rfl
                                                  refine pure_ (i := 14) (N := some 108) (v := ?_) (a' := ?_) #[true, true, true, true, true, true, true, true, true, true, true, true, true, true, true, false, false, false, false, false, false, false, false, false, false, false, false, false, false, false, false, false, false, false] rfl rfl (any_of HT_.out (by kernel_rfl)) (fun _ _ _ h => h) (Or.inl ⟨by rfl, ?_⟩) ?_ ?_
                                                  rotate_left
                                                  · intro w'
                                                    go_simp
                                                    with_reducible rfl
                                                  rotate_left
                                                  · simp only [Act.put, List.setIfInBounds_toArray, List.set_cons_zero, List.set_cons_succ, i64_w, i32_w]
                                                    rfl
                                                  refine pure_ (i := 15) (N := some 109) (v := ?_) (a' := ?_) #[true, true, true, true, true, true, true, true, true, true, true, true, true, true, true, true, false, false, false, false, false, false, false, false, false, false, false, false, false, false, false, false, false, false] rfl rfl (any_of HT_.out (by kernel_rfl)) (fun _ _ _ h => h) (Or.inl ⟨by rfl, ?_⟩) ?_ ?_
                                                  rotate_left
                                                  · intro w'
                                                    go_simp
                                                    with_reducible rfl
                                                  rotate_left
                                                  · simp only [Act.put, List.setIfInBounds_toArray, List.set_cons_zero, List.set_cons_succ, i64_w, i32_w]
                                                    rfl
                                                  refine pure_ (i := 16) (N := some 110) (v := ?_) (a' := ?_) #[true, true, true, true, true, true, true, true, true, true, true, true, true, true, true, true, true, false, false, false, false, false, false, false, false, false, false, false, false, false, false, false, false, false] rfl rfl (any_of HT_.out (by kernel_rfl)) (fun _ _ _ h => h) (Or.inl ⟨by rfl, ?_⟩) ?_ ?_
                                                  rotate_left
                                                  · intro w'
                                                    go_simp
                                                    with_reducible rfl
                                                  rotate_left
                                                  · simp only [Act.put, List.setIfInBounds_toArray, List.set_cons_zero, List.set_cons_succ, i64_w, i32_w]
                                                    rfl
                                                  refine pure_ (i := 17) (N := some 111) (v := ?_) (a' := ?_) #[true, true, true, true, true, true, true, true, true, true, true, true, true, true, true, true, true, true, false, false, false, false, false, false, false, false, false, false, false, false, false, false, false, false] rfl rfl (any_of HT_.out (by kernel_rfl)) (fun _ _ _ h => h) (Or.inl ⟨by rfl, ?_⟩) ?_ ?_
                                                  rotate_left
                                                  · intro w'
                                                    go_simp
                                                    with_reducible rfl
                                                  rotate_left
                                                  · simp only [Act.put, List.setIfInBounds_toArray, List.set_cons_zero, List.set_cons_succ, i64_w, i32_w]
                                                    rfl
                                                  refine pure_ (i := 18) (N := some 112) (v := ?_) (a' := ?_) #[true, true, true, true, true, true, true, true, true, true, true, true, true, true, true, true, true, true, true, false, false, false, false, false, false, false, false, false, false, false, false, false, false, false] rfl rfl (any_of HT_.out (by kernel_rfl)) (fun _ _ _ h => h) (Or.inl ⟨by rfl, ?_⟩) ?_ ?_
                                                  rotate_left
                                                  · intro w'
                                                    go_simp
                                                    with_reducible rfl
                                                  rotate_left
                                                  · simp only [Act.put, List.setIfInBounds_toArray, List.set_cons_zero, List.set_cons_succ, i64_w, i32_w]
                                                    rfl
                                                  refine pure_ (i := 19) (N := some 113) (v := ?_) (a' := ?_) #[true, true, true, true, true, true, true, true, true, true, true, true, true, true, true, true, true, true, true, true, false, false, false, false, false, false, false, false, false, false, false, false, false, false] rfl rfl (any_of HT_.out (by kernel_rfl)) (fun _ _ _ h => h) (Or.inl ⟨by rfl, ?_⟩) ?_ ?_
                                                  rotate_left
                                                  · intro w'
                                                    go_simp
                                                    with_reducible rfl
                                                  rotate_left
                                                  · simp only [Act.put, List.setIfInBounds_toArray, List.set_cons_zero, List.set_cons_succ, i64_w, i32_w]
                                                    rfl
                                                  refine pure_ (i := 20) (N := some 114) (v := ?_) (a' := ?_) #[true, true, true, true, true, true, true, true, true, true, true, true, true, true, true, true, true, true, true, true, true, false, false, false, false, false, false, false, false, false, false, false, false, false] rfl rfl (any_of HT_.out (by kernel_rfl)) (fun _ _ _ h => h) (Or.inl ⟨by rfl, ?_⟩) ?_ ?_
                                                  rotate_left
                                                  · intro w'
                                                    go_simp
                                                    with_reducible rfl
                                                  rotate_left
                                                  · simp only [Act.put, List.setIfInBounds_toArray, List.set_cons_zero, List.set_cons_succ, i64_w, i32_w]
                                                    rfl
                                                  refine pure_ (i := 21) (N := some 115) (v := ?_) (a' := ?_) #[true, true, true, true, true, true, true, true, true, true, true, true, true, true, true, true, true, true, true, true, true, true, false, false, false, false, false, false, false, false, false, false, false, false] rfl rfl (any_of HT_.out (by kernel_rfl)) (fun _ _ _ h => h) (Or.inl ⟨by rfl, ?_⟩) ?_ ?_
                                                  rotate_left
                                                  · intro w'
                                                    go_simp
                                                    with_reducible rfl
                                                  rotate_left
                                                  · simp only [Act.put, List.setIfInBounds_toArray, List.set_cons_zero, List.set_cons_succ, i64_w, i32_w]
                                                    rfl
                                                  refine pure_ (i := 22) (N := some 116) (v := ?_) (a' := ?_) #[true, true, true, true, true, true, true, true, true, true, true, true, true, true, true, true, true, true, true, true, true, true, true, false, false, false, false, false, false, false, false, false, false, false] rfl rfl (any_of HT_.out (by kernel_rfl)) (fun _ _ _ h => h) (Or.inl ⟨by rfl, ?_⟩) ?_ ?_
                                                  rotate_left
                                                  · intro w'
                                                    go_simp
                                                    with_reducible rfl
                                                  rotate_left
                                                  · simp only [Act.put, List.setIfInBounds_toArray, List.set_cons_zero, List.set_cons_succ, i64_w, i32_w]
                                                    rfl
                                                  refine pure_ (i := 23) (N := some 117) (v := ?_) (a' := ?_) #[true, true, true, true, true, true, true, true, true, true, true, true, true, true, true, true, true, true, true, true, true, true, true, true, false, false, false, false, false, false, false, false, false, false] rfl rfl (any_of HT_.out (by kernel_rfl)) (fun _ _ _ h => h) (Or.inl ⟨by rfl, ?_⟩) ?_ ?_
                                                  rotate_left
                                                  · intro w'
                                                    go_simp
                                                    with_reducible rfl
                                                  rotate_left
                                                  · simp only [Act.put, List.setIfInBounds_toArray, List.set_cons_zero, List.set_cons_succ, i64_w, i32_w]
                                                    rfl
                                                  refine pure_ (i := 24) (N := some 118) (v := ?_) (a' := ?_) #[true, true, true, true, true, true, true, true, true, true, true, true, true, true, true, true, true, true, true, true, true, true, true, true, true, false, false, false, false, false, false, false, false, false] rfl rfl (any_of HT_.out (by kernel_rfl)) (fun _ _ _ h => h) (Or.inl ⟨by rfl, ?_⟩) ?_ ?_
                                                  rotate_left
                                                  · intro w'
                                                    go_simp
                                                    with_reducible rfl
                                                  rotate_left
                                                  · simp only [Act.put, List.setIfInBounds_toArray, List.set_cons_zero, List.set_cons_succ, i64_w, i32_w]
                                                    rfl
                                                  refine pure_ (i := 25) (N := some 119) (v := ?_) (a' := ?_) #[true, true, true, true, true, true, true, true, true, true, true, true, true, true, true, true, true, true, true, true, true, true, true, true, true, true, false, false, false, false, false, false, false, false] rfl rfl (any_of HT_.out (by kernel_rfl)) (fun _ _ _ h => h) (Or.inl ⟨by rfl, ?_⟩) ?_ ?_
                                                  rotate_left
                                                  · intro w'
                                                    go_simp
                                                    with_reducible rfl
                                                  rotate_left
                                                  · simp only [Act.put, List.setIfInBounds_toArray, List.set_cons_zero, List.set_cons_succ, i64_w, i32_w]
                                                    rfl
                                                  refine pure_ (i := 26) (N := some 120) (v := ?_) (a' := ?_) #[true, true, true, true, true, true, true, true, true, true, true, true, true, true, true, true, true, true, true, true, true, true, true, true, true, true, true, false, false, false, false, false, false, false] rfl rfl (any_of HT_.out (by kernel_rfl)) (fun _ _ _ h => h) (Or.inl ⟨by rfl, ?_⟩) ?_ ?_
                                                  rotate_left
                                                  · intro w'
                                                    go_simp
                                                    with_reducible rfl
                                                  rotate_left
                                                  · simp only [Act.put, List.setIfInBounds_toArray, List.set_cons_zero, List.set_cons_succ, i64_w, i32_w]
                                                    rfl
                                                  refine pure_ (i := 27) (N := some 121) (v := ?_) (a' := ?_) #[true, true, true, true, true, true, true, true, true, true, true, true, true, true, true, true, true, true, true, true, true, true, true, true, true, true, true, true, false, false, false, false, false, false] rfl rfl (any_of HT_.out (by kernel_rfl)) (fun _ _ _ h => h) (Or.inl ⟨by rfl, ?_⟩) ?_ ?_
                                                  rotate_left
                                                  · intro w'
                                                    go_simp
                                                    with_reducible rfl
                                                  rotate_left
                                                  · simp only [Act.put, List.setIfInBounds_toArray, List.set_cons_zero, List.set_cons_succ, i64_w, i32_w]
                                                    rfl
                                                  refine one_ (i := 28) (N := some 122) #[true, true, true, true, true, true, true, true, true, true, true, true, true, true, true, true, true, true, true, true, true, true, true, true, true, true, true, true, true, false, false, false, false, false] rfl rfl (one_of HT_.out (by kernel_rfl)) (by decide) (fun K hK => ?_)
                                                  refine goes_ Try.func15 (by kernel_rfl) rfl #[.slice A60 y226.length c60, .slice A61 y230.length c61] (by rfl) rfl rfl (by (try simp only [List.map_toArray, List.map_cons, List.map_nil]); first | done | rfl | (simp only [List.length_drop, List.length_take]; rfl)) ?_
                                                  with_reducible refine (estreatref01_Same.calls k1 _ _ y226 _ _ y230 true _ ?side1 ?side2 ?side3 ?side4 A40.out).mono ?_
                                                  (case side1 => repeat (first | exact (by repeat (first | (with_reducible exact HR229.out) | (with_reducible refine Kd.C_alloc ?_ _) | (with_reducible refine Kd.C_drewN ?_ _) | (with_reducible refine Kd.C_drew ?_) | exact HR229.out)) | (with_reducible refine Kd.C_alloc ?_ _) | (with_reducible refine Kd.C_drewN ?_ _) | (with_reducible refine Kd.C_drew ?_)))
                                                  (case side2 => exact HC229.out)
                                                  (case side3 => repeat (first | exact (by repeat (first | (with_reducible exact HR233.out) | (with_reducible refine Kd.C_alloc ?_ _) | (with_reducible refine Kd.C_drewN ?_ _) | (with_reducible refine Kd.C_drew ?_) | exact HR233.out)) | (with_reducible refine Kd.C_alloc ?_ _) | (with_reducible refine Kd.C_drewN ?_ _) | (with_reducible refine Kd.C_drew ?_)))
                                                  (case side4 => exact HC233.out)
                                                  rintro e w' ⟨rfl, ⟨nd, rfl⟩⟩
                                                  refine ⟨_, rfl, ?_⟩
                                                  refine hK.out _ _ trivial (fun hHeld => ?_)
                                                  clear hK K
                                                  refine norm_ (a' := ?_) ?_ ?_
                                                  rotate_left
                                                  · show Act.put _ (some 122) _ = _
                                                    simp only [Act.put, List.setIfInBounds_toArray, List.set_cons_zero, List.set_cons_succ, i64_w, i32_w]
                                                    rfl
                                                  refine pure_ (i := 29) (N := some 123) (v := ?_) (a' := ?_) #[true, true, true, true, true, true, true, true, true, true, true, true, true, true, true, true, true, true, true, true, true, true, true, true, true, true, true, true, true, true, false, false, false, false] rfl rfl (any_of HT_.out (by kernel_rfl)) (fun _ _ _ h => h) (Or.inl ⟨by rfl, ?_⟩) ?_ ?_
                                                  rotate_left
                                                  · intro w'
                                                    go_simp
                                                    with_reducible rfl
                                                  rotate_left
                                                  · simp only [Act.put, List.setIfInBounds_toArray, List.set_cons_zero, List.set_cons_succ, i64_w, i32_w]
                                                    rfl
                                                  refine pure_ (i := 30) (N := some 124) (v := ?_) (a' := ?_) #[true, true, true, true, true, true, true, true, true, true, true, true, true, true, true, true, true, true, true, true, true, true, true, true, true, true, true, true, true, true, true, false, false, false] rfl rfl (any_of HT_.out (by kernel_rfl)) (fun _ _ _ h => h) (Or.inl ⟨by rfl, ?_⟩) ?_ ?_
                                                  rotate_left
                                                  · intro w'
                                                    go_simp
                                                    with_reducible rfl
                                                  rotate_left
                                                  · simp only [Act.put, List.setIfInBounds_toArray, List.set_cons_zero, List.set_cons_succ, i64_w, i32_w]
                                                    rfl
                                                  refine one_ (i := 31) (N := some 125) #[true, true, true, true, true, true, true, true, true, true, true, true, true, true, true, true, true, true, true, true, true, true, true, true, true, true, true, true, true, true, true, true, false, false] rfl rfl (one_of HT_.out (by kernel_rfl)) (by decide) (fun K hK => ?_)
                                                  refine goes_ Try.func9 (by kernel_rfl) rfl #[] (by rfl) rfl rfl (by (try simp only [List.map_toArray, List.map_cons, List.map_nil]); first | done | rfl | (simp only [List.length_drop, List.length_take]; rfl)) ?_
                                                  with_reducible refine (estreatlaw10_awake.calls k1  t235 _ A42.out).mono ?_
                                                  rintro e w62 ⟨rfl, hb⟩
                                                  refine ⟨_, rfl, ?_⟩
                                                  have n0_ := Aside0.mk (Kd.R_below (by (with_reducible repeat (first | apply Kd.R_alloc | apply Kd.R_drewN | apply Kd.R_drew)); exact HO_5.out) hb)
                                                  have n1_ := Aside0.mk (Kd.R_below (by (with_reducible repeat (first | apply Kd.R_alloc | apply Kd.R_drewN | apply Kd.R_drew)); exact HO193.out) hb)
                                                  have n2_ := Aside0.mk (Kd.R_below (by (with_reducible repeat (first | apply Kd.R_alloc | apply Kd.R_drewN | apply Kd.R_drew)); exact HO196.out) hb)
                                                  have n3_ := Aside0.mk (Kd.R_below (by (with_reducible repeat (first | apply Kd.R_alloc | apply Kd.R_drewN | apply Kd.R_drew)); exact HO200.out) hb)
                                                  have n4_ := Aside0.mk (Kd.R_below (by (with_reducible repeat (first | apply Kd.R_alloc | apply Kd.R_drewN | apply Kd.R_drew)); exact HO204.out) hb)
                                                  have n5_ := Aside0.mk (Kd.R_below (by (with_reducible repeat (first | apply Kd.R_alloc | apply Kd.R_drewN | apply Kd.R_drew)); exact HO211.out) hb)
                                                  have n6_ := Aside0.mk (Kd.R_below (by (with_reducible repeat (first | apply Kd.R_alloc | apply Kd.R_drewN | apply Kd.R_drew)); exact HO216.out) hb)
                                                  have n7_ := Aside0.mk (Kd.C_below (by repeat (first | (with_reducible exact HR220.out) | (with_reducible refine Kd.C_alloc ?_ _) | (with_reducible refine Kd.C_drewN ?_ _) | (with_reducible refine Kd.C_drew ?_) | exact HR220.out)) hb)
                                                  have n8_ := Aside0.mk (Kd.C_below (by repeat (first | (with_reducible exact HR224.out) | (with_reducible refine Kd.C_alloc ?_ _) | (with_reducible refine Kd.C_drewN ?_ _) | (with_reducible refine Kd.C_drew ?_) | exact HR224.out)) hb)
                                                  have n9_ := Aside0.mk (Kd.C_below (by repeat (first | (with_reducible exact HR229.out) | (with_reducible refine Kd.C_alloc ?_ _) | (with_reducible refine Kd.C_drewN ?_ _) | (with_reducible refine Kd.C_drew ?_) | exact HR229.out)) hb)
                                                  have n10_ := Aside0.mk (Kd.C_below (by repeat (first | (with_reducible exact HR233.out) | (with_reducible refine Kd.C_alloc ?_ _) | (with_reducible refine Kd.C_drewN ?_ _) | (with_reducible refine Kd.C_drew ?_) | exact HR233.out)) hb)
                                                  have n11_ := Aside0.mk (below_step (by repeat (first | (with_reducible first | exact HB.out | apply below_alloc | apply pw_below_drewN | apply below_drew1) | exact HB.out)) hb)
                                                  clear HO_5
                                                  clear HO193
                                                  clear HO196
                                                  clear HO200
                                                  clear HO204
                                                  clear HO211
                                                  clear HO216
                                                  clear HR220
                                                  clear HR224
                                                  clear HR229
                                                  clear HR233
                                                  clear HB
                                                  have HO_5 := n0_
                                                  have HO193 := n1_
                                                  have HO196 := n2_
                                                  have HO200 := n3_
                                                  have HO204 := n4_
                                                  have HO211 := n5_
                                                  have HO216 := n6_
                                                  have HR220 := n7_
                                                  have HR224 := n8_
                                                  have HR229 := n9_
                                                  have HR233 := n10_
                                                  have HB := n11_
                                                  clear n0_ n1_ n2_ n3_ n4_ n5_ n6_ n7_ n8_ n9_ n10_ n11_
                                                  (try clear hb)
                                                  (try clear hb2)
                                                  (try clear hk)
                                                  (try clear hi)
                                                  refine hK.out _ _ trivial (fun hHeld => ?_)
                                                  clear hK K
                                                  refine norm_ (a' := ?_) ?_ ?_
                                                  rotate_left
                                                  · show Act.put _ (some 125) _ = _
                                                    simp only [Act.put, List.setIfInBounds_toArray, List.set_cons_zero, List.set_cons_succ, i64_w, i32_w]
                                                    rfl
                                                  refine pure_ (i := 32) (N := some 126) (v := ?_) (a' := ?_) #[true, true, true, true, true, true, true, true, true, true, true, true, true, true, true, true, true, true, true, true, true, true, true, true, true, true, true, true, true, true, true, true, true, false] rfl rfl (any_of HT_.out (by kernel_rfl)) (fun _ _ _ h => h) (Or.inl ⟨by rfl, ?_⟩) ?_ ?_
                                                  rotate_left
                                                  · intro w'
                                                    go_simp
                                                    with_reducible rfl
                                                  rotate_left
                                                  · simp only [Act.put, List.setIfInBounds_toArray, List.set_cons_zero, List.set_cons_succ, i64_w, i32_w]
                                                    rfl
                                                  refine pure_ (i := 33) (N := some 4) (v := ?_) (a' := ?_) #[true, true, true, true, true, true, true, true, true, true, true, true, true, true, true, true, true, true, true, true, true, true, true, true, true, true, true, true, true, true, true, true, true, true] rfl rfl (any_of HT_.out (by kernel_rfl)) (fun _ _ _ h => h) (Or.inl ⟨by rfl, ?_⟩) ?_ ?_
                                                  rotate_left
                                                  · intro w'
                                                    go_simp
                                                    with_reducible rfl
                                                  rotate_left
                                                  · simp only [Act.put, List.setIfInBounds_toArray, List.set_cons_zero, List.set_cons_succ, i64_w, i32_w]
                                                    rfl
                                                  refine done_ (done_of HT_.out (by kernel_rfl)) ?_
                                                  try go_wp2
                                                  go_ret
                                                  exact ⟨by first | rfl | (simp [errW_none, errW_some] <;> rfl) | (simp [*, errW_none, errW_some] <;> rfl), by repeat (first | (with_reducible first | exact HB.out | apply below_alloc | apply pw_below_drewN | apply below_drew1) | exact HB.out)⟩
                                                · replace c41 := Bool.eq_false_iff.mpr c41
                                                  subst c41
                                                  have H1 : (some false) = some r := by rw [if_neg (show ¬ (false = true) by decide)] at H; exact H
                                                  clear H
                                                  have H := H1
                                                  clear H1
                                                  exact absurd (H.trans (congrArg some hr)) (by simp)
                                              · rw [if_neg c39] at H
                                                exact absurd H (by simp)
                                            · rw [if_neg c38] at H
                                              exact absurd H (by simp)
                                          · rw [if_neg c37] at H
                                            exact absurd H (by simp)
                                        · rw [if_neg c36] at H
                                          exact absurd H (by simp)
                                      · rw [if_neg c35] at H
                                        have c35b0 : decide ((t214.length : Int) ≤ (t201.length : Int)) = false := decide_eq_false c35
                                        have c35b1 : decide (t214.length ≤ t201.length) = false := decide_eq_false (fun h => c35 (Int.ofNat_le.mpr h))
                                        clear c35
                                        exact absurd (H.trans (congrArg some hr)) (by simp)
                                    · rw [if_neg c34] at H
                                      have c34b0 : decide ((t209.length : Int) ≤ (t197.length : Int)) = false := decide_eq_false c34
                                      have c34b1 : decide (t209.length ≤ t197.length) = false := decide_eq_false (fun h => c34 (Int.ofNat_le.mpr h))
                                      clear c34
                                      exact absurd (H.trans (congrArg some hr)) (by simp)
                                  · replace c33 := Bool.eq_false_iff.mpr c33
                                    subst c33
                                    have H1 : (some false) = some r := by rw [if_neg (show ¬ (false = true) by decide)] at H; exact H
                                    clear H
                                    have H := H1
                                    clear H1
                                    exact absurd (H.trans (congrArg some hr)) (by simp)
                                · rw [if_neg c31] at H
                                  exact absurd H (by simp)
                              · rw [if_neg c30] at H
                                exact absurd H (by simp)
                            · rw [if_neg c27] at H
                              exact absurd H (by simp)
                          · rw [if_neg c24] at H
                            exact absurd H (by simp)
                        · rw [if_neg c23] at H
                          have c23b0 : ((rd t194 0) == (wrap64 ((rd t191 0) + a1))) = false := beq_eq_false_iff_ne.mpr c23
                          have c23b1 : ((rd t194 0) != (wrap64 ((rd t191 0) + a1))) = true := bne_iff_ne.mpr c23
                          exact absurd (H.trans (congrArg some hr)) (by simp)
                      · rw [if_neg c22] at H
                        exact absurd H (by simp)
                    · rw [if_neg c21] at H
                      exact absurd H (by simp)
                  · rw [if_neg c20] at H
                    have c20b0 : ((t194.length : Int) == (l0.length : Int)) = false := beq_eq_false_iff_ne.mpr c20
                    have c20b1 : ((t194.length : Int) != (l0.length : Int)) = true := bne_iff_ne.mpr c20
                    have c20b2 : (t194.length == l0.length) = false := by first | simpa using c20 | (simp at c20 ⊢; omega)
                    exact absurd (H.trans (congrArg some hr)) (by simp)
                · rw [if_neg c19] at H
                  have c19b0 : ((t191.length : Int) == (l0.length : Int)) = false := beq_eq_false_iff_ne.mpr c19
                  have c19b1 : ((t191.length : Int) != (l0.length : Int)) = true := bne_iff_ne.mpr c19
                  have c19b2 : (t191.length == l0.length) = false := by first | simpa using c19 | (simp at c19 ⊢; omega)
                  exact absurd (H.trans (congrArg some hr)) (by simp)
              · rw [if_neg c18] at H
                have c18b0 : (t202 == 0) = false := beq_eq_false_iff_ne.mpr c18
                have c18b1 : (t202 != 0) = true := bne_iff_ne.mpr c18
                exact absurd (H.trans (congrArg some hr)) (by simp)
            · rw [if_neg c17] at H
              have c17b0 : (t198 == 0) = false := beq_eq_false_iff_ne.mpr c17
              have c17b1 : (t198 != 0) = true := bne_iff_ne.mpr c17
              exact absurd (H.trans (congrArg some hr)) (by simp)

/-- THE ONE PURE STATEMENT of estreatlaw10_DeltaShift: yours. -/
def estreatlaw10_DeltaShift.Pure : Prop := ∀ (l0 : List Int) (a1 : Int), l0.length ≤ maxLen → l0.length * 8 ≤ 140737488351232 → (∀ x ∈ l0, (Lit.int .i64 x).wf = true) → (Lit.int .i64 a1).wf = true → ∃ k, estreatlaw10_DeltaShift.f k l0 a1 = some true
theorem estreatlaw10_DeltaShift.walk (P : estreatlaw10_DeltaShift.Pure) (a0 : Option Addr) (len0 cap0 : Nat) (z0 : List Int) (a1 : Int) (w : World) (w0 : (a0 = none ∧ len0 = 0 ∧ cap0 = 0 ∧ z0 = []) ∨ ∃ x, a0 = some x ∧ len0 ≤ cap0 ∧ cap0 ≤ maxLen ∧ z0.length = cap0 ∧ (∀ i, i < z0.length → w.cell? (x.add i) = some (.int .i64 (z0.getD i 0))) ∧ ∀ n ∈ z0, (Lit.int .i64 n).wf = true) (y0 : len0 * 8 ≤ 140737488351232) (w1 : (Lit.int .i64 a1).wf = true) :
    Calls Try.prog 3 #[.slice a0 len0 cap0, .int .i64 a1] w fun e w' => e = .returned (.bool true) ∧ Below w.heap.size w w' := by
  obtain ⟨l0, rfl, hr0, hm0, hw0, hc0⟩ := ReadsInt.ofRowC w0
  obtain ⟨k, h⟩ := P l0 a1 hm0 y0 hw0 w1
  refine (estreatlaw10_DeltaShift.calls k _ _ l0 a1 true w (Kd.C_of_reads (d := (0 : Int)) (h1 := fun _ => rfl) hr0) hc0 h rfl).mono ?_
  rintro e w' ⟨rfl, hd⟩
  exact ⟨rfl, hd⟩

end Go.Proofs.Ytieddojplhmhgaa.PDeltaShift
