/- WRITTEN BY A PROGRAM of this session (wip/tool: a turned copy of the printer), out of the translation: Lean functions with the answers of the Go functions, and the proofs that the Go code comes to them. -/
import Derived.Test.YtbkocklahdlgkaaDoorPTextsBackx0
import Derived.Test.YtbkocklahdlgkaaDoorPTextsBackx2
namespace Go.Proofs.YtbkocklahdlgkaaDoor.PTextsBack
open Go.RowKit Go.Proofs.YtbkocklahdlgkaaDoorW.PrintWords Go.Proofs.YtbkocklahdlgkaaDoorW.PrintLast Go.Proofs.YtbkocklahdlgkaaDoorW.PrintMore
attribute [local go_sem] max2_int min2_int max_two min_two max_three min_three max_four min_four   -- for this text's walks alone
set_option linter.unusedVariables false
set_option linter.unusedSimpArgs false

/-! ### bits_Unpack: function 36 -/
mutual
def bits_Unpack.l0 : Nat → List Int → Int → List Int → Int → Int → Int → Option (List Int × Int)
  | 0, _, _, _, _, _, _ => none
  | k + 1, x0, x2, x9, x10, x51, x52 => if x52 < x51 then (bits_Unpack.l1 k x0 x2 x9 x10 0 0 x51 x52) else (some (x9, 0))
def bits_Unpack.l1 : Nat → List Int → Int → List Int → Int → Int → Int → Int → Int → Option (List Int × Int)
  | 0, _, _, _, _, _, _, _, _ => none
  | k + 1, x0, x2, x9, x10, x11, x12, x51, x52 => if x12 = x2 then (if x9.length < 17592186044416 then (bits_Unpack.l0 k x0 x2 (x9 ++ [x11]) x10 x51 (wrap64 (x52 + 1))) else (none)) else (if 0 ≤ (wrap64 (Int.tdiv x10 8)) then (if (wrap64 (Int.tdiv x10 8)) < (x0.length : Int) then (if 0 ≤ (IntKind.u64.wrap (Int.tmod x10 8)) then (if 0 ≤ (IntKind.u64.wrap (mn (wrap64 (8 - (Int.tmod x10 8))) (wrap64 (x2 - x12)))) then (if 0 ≤ (IntKind.u64.wrap (x12)) then (bits_Unpack.l1 k x0 x2 x9 (wrap64 (x10 + (mn (wrap64 (8 - (Int.tmod x10 8))) (wrap64 (x2 - x12))))) (Go.bits .or .u64 x11 (shl .u64 (Go.bits .and .u64 (IntKind.u64.wrap (shr .u8 (rd x0 (wrap64 (Int.tdiv x10 8))) (IntKind.u64.wrap (Int.tmod x10 8)))) (IntKind.u64.wrap ((shl .u64 1 (IntKind.u64.wrap (mn (wrap64 (8 - (Int.tmod x10 8))) (wrap64 (x2 - x12))))) - 1))) (IntKind.u64.wrap (x12)))) (wrap64 (x12 + (mn (wrap64 (8 - (Int.tmod x10 8))) (wrap64 (x2 - x12))))) x51 x52) else (none)) else (none)) else (none)) else (none)) else (none))
end
def bits_Unpack.f (k : Nat) (l0 : List Int) (a1 : Int) (a2 : Int) : Option (List Int × Int) := (bits_Size.f a1 a2).bind fun t261 => (if t261 < 0 then (some (([] : List Int), 1)) else (if (l0.length : Int) < t261 then (some (([] : List Int), 2)) else (if (l0.length : Int) > t261 then (some (([] : List Int), 3)) else (if (Int.tmod (wrap64 (a1 * a2)) 8) = 0 then (bits_Unpack.l0 k l0 a2 ([] : List Int) 0 a1 0) else (if 0 ≤ (wrap64 (t261 - 1)) then (if (wrap64 (t261 - 1)) < (l0.length : Int) then (if 0 ≤ (IntKind.u64.wrap (Int.tmod (wrap64 (a1 * a2)) 8)) then (if (shr .u8 (rd l0 (wrap64 (t261 - 1))) (IntKind.u64.wrap (Int.tmod (wrap64 (a1 * a2)) 8))) = 0 then (bits_Unpack.l0 k l0 a2 ([] : List Int) 0 a1 0) else (some (([] : List Int), 4))) else (none)) else (none)) else (none))))))
set_option maxHeartbeats 8000000 in
set_option maxRecDepth 100000 in
theorem bits_Unpack.calls (k : Nat) (A0 : Option Addr) (c0 : Nat) (l0 : List Int) (a1 : Int) (a2 : Int) (r1 : List Int) (r2 : Int) (w : World) (hr0 : Kd.C (Kd.int .u8) w A0 l0.length l0) (hc0 : l0.length ≤ c0) (h : bits_Unpack.f k l0 a1 a2 = some (r1, r2)) :
    Calls Tryd.prog 36 #[.slice A0 l0.length c0, .int .i64 a1, .int .i64 a2] w fun e w' => ∃ v0_ : Value, e = .returned (.tuple #[v0_, .int .i64 r2]) ∧ Kd.R (Kd.int .u64) 69 w' w.heap.size (fun _ => True) v0_ r1 ∧ Below w.heap.size w w' := by
  have HR0 := Aside0.mk hr0
  have HC0 := Aside0.mk hc0
  clear hr0 hc0
  have HB := Aside0.mk (Below.refl w.heap.size w)
  have H : ((bits_Size.f a1 a2).bind fun t261 => (if t261 < 0 then (some (([] : List Int), 1)) else (if (l0.length : Int) < t261 then (some (([] : List Int), 2)) else (if (l0.length : Int) > t261 then (some (([] : List Int), 3)) else (if (Int.tmod (wrap64 (a1 * a2)) 8) = 0 then (bits_Unpack.l0 k l0 a2 ([] : List Int) 0 a1 0) else (if 0 ≤ (wrap64 (t261 - 1)) then (if (wrap64 (t261 - 1)) < (l0.length : Int) then (if 0 ≤ (IntKind.u64.wrap (Int.tmod (wrap64 (a1 * a2)) 8)) then (if (shr .u8 (rd l0 (wrap64 (t261 - 1))) (IntKind.u64.wrap (Int.tmod (wrap64 (a1 * a2)) 8))) = 0 then (bits_Unpack.l0 k l0 a2 ([] : List Int) 0 a1 0) else (some (([] : List Int), 4))) else (none)) else (none)) else (none))))))) = some (r1, r2) := h
  clear h
  replace H := Option.bind_eq_some_iff.mp H
  obtain ⟨t261, A40, H⟩ := H
  replace H : (if t261 < 0 then (some (([] : List Int), 1)) else (if (l0.length : Int) < t261 then (some (([] : List Int), 2)) else (if (l0.length : Int) > t261 then (some (([] : List Int), 3)) else (if (Int.tmod (wrap64 (a1 * a2)) 8) = 0 then (bits_Unpack.l0 k l0 a2 ([] : List Int) 0 a1 0) else (if 0 ≤ (wrap64 (t261 - 1)) then (if (wrap64 (t261 - 1)) < (l0.length : Int) then (if 0 ≤ (IntKind.u64.wrap (Int.tmod (wrap64 (a1 * a2)) 8)) then (if (shr .u8 (rd l0 (wrap64 (t261 - 1))) (IntKind.u64.wrap (Int.tmod (wrap64 (a1 * a2)) 8))) = 0 then (bits_Unpack.l0 k l0 a2 ([] : List Int) 0 a1 0) else (some (([] : List Int), 4))) else (none)) else (none)) else (none)))))) = some (r1, r2) := H
  have A4 := Aside0.mk A40
  clear A40
  by_cases c5 : t261 < 0
  · rw [if_pos c5] at H
    have c5b0 : decide (t261 < 0) = true := decide_eq_true c5
    clear c5
    simp only [Option.some.injEq, Prod.mk.injEq] at H
    obtain ⟨rfl, rfl⟩ := H
    go_enter Tryd.func36, Tryd.ntmps36
    go_wp2_with (first | ((with_reducible refine gate_callee (f := 67) rfl ?_); refine goesL_ (some 17) rfl rfl Tryd.func67 (by kernel_rfl) rfl #[.int .i64 a1, .int .i64 a2] rfl (by (try simp only [List.map_toArray, List.map_cons, List.map_nil]); first | done | rfl | (simp only [List.length_drop, List.length_take]; rfl)) ?_; (with_reducible refine (bits_Size.calls a1 a2 t261 _ A4.out).mono ?_); rintro e w' ⟨rfl, ⟨nd, rfl⟩⟩; refine ⟨_, rfl, ?_⟩))
    repeat (go_step3; try go_wp2_with (first | ((with_reducible refine gate_callee (f := 67) rfl ?_); refine goesL_ (some 17) rfl rfl Tryd.func67 (by kernel_rfl) rfl #[.int .i64 a1, .int .i64 a2] rfl (by (try simp only [List.map_toArray, List.map_cons, List.map_nil]); first | done | rfl | (simp only [List.length_drop, List.length_take]; rfl)) ?_; (with_reducible refine (bits_Size.calls a1 a2 t261 _ A4.out).mono ?_); rintro e w' ⟨rfl, ⟨nd, rfl⟩⟩; refine ⟨_, rfl, ?_⟩)))
    try rw [Exit.noGoto_ret]
    go_ret2
    exact ⟨_, by first | rfl | (simp [errW_none, errW_some] <;> rfl) | (simp [*, errW_none, errW_some] <;> rfl), by first | exact Kd.R_nil _ _ _ _ _ | exact Kd.N_nil _ _ _ _ _ | exact Kd.V_nil _ _ _ _ _ | exact Kd.Q_nil _ _ _ _ _ | exact Kd.S_nil _ _ _ _ _, by repeat (first | (with_reducible first | exact HB.out | apply below_alloc | apply pw_below_drewN | apply below_drew1) | exact HB.out)⟩
  · rw [if_neg c5] at H
    have c5b0 : decide (t261 < 0) = false := decide_eq_false c5
    clear c5
    by_cases c6 : (l0.length : Int) < t261
    · rw [if_pos c6] at H
      have c6b0 : decide ((l0.length : Int) < t261) = true := decide_eq_true c6
      clear c6
      simp only [Option.some.injEq, Prod.mk.injEq] at H
      obtain ⟨rfl, rfl⟩ := H
      go_enter Tryd.func36, Tryd.ntmps36
      go_wp2_with (first | ((with_reducible refine gate_callee (f := 67) rfl ?_); refine goesL_ (some 17) rfl rfl Tryd.func67 (by kernel_rfl) rfl #[.int .i64 a1, .int .i64 a2] rfl (by (try simp only [List.map_toArray, List.map_cons, List.map_nil]); first | done | rfl | (simp only [List.length_drop, List.length_take]; rfl)) ?_; (with_reducible refine (bits_Size.calls a1 a2 t261 _ A4.out).mono ?_); rintro e w' ⟨rfl, ⟨nd, rfl⟩⟩; refine ⟨_, rfl, ?_⟩))
      repeat (go_step3; try go_wp2_with (first | ((with_reducible refine gate_callee (f := 67) rfl ?_); refine goesL_ (some 17) rfl rfl Tryd.func67 (by kernel_rfl) rfl #[.int .i64 a1, .int .i64 a2] rfl (by (try simp only [List.map_toArray, List.map_cons, List.map_nil]); first | done | rfl | (simp only [List.length_drop, List.length_take]; rfl)) ?_; (with_reducible refine (bits_Size.calls a1 a2 t261 _ A4.out).mono ?_); rintro e w' ⟨rfl, ⟨nd, rfl⟩⟩; refine ⟨_, rfl, ?_⟩)))
      try rw [Exit.noGoto_ret]
      go_ret2
      exact ⟨_, by first | rfl | (simp [errW_none, errW_some] <;> rfl) | (simp [*, errW_none, errW_some] <;> rfl), by first | exact Kd.R_nil _ _ _ _ _ | exact Kd.N_nil _ _ _ _ _ | exact Kd.V_nil _ _ _ _ _ | exact Kd.Q_nil _ _ _ _ _ | exact Kd.S_nil _ _ _ _ _, by repeat (first | (with_reducible first | exact HB.out | apply below_alloc | apply pw_below_drewN | apply below_drew1) | exact HB.out)⟩
    · rw [if_neg c6] at H
      have c6b0 : decide ((l0.length : Int) < t261) = false := decide_eq_false c6
      clear c6
      by_cases c7 : (l0.length : Int) > t261
      · rw [if_pos c7] at H
        have c7b0 : decide (t261 < (l0.length : Int)) = true := decide_eq_true c7
        clear c7
        simp only [Option.some.injEq, Prod.mk.injEq] at H
        obtain ⟨rfl, rfl⟩ := H
        go_enter Tryd.func36, Tryd.ntmps36
        go_wp2_with (first | ((with_reducible refine gate_callee (f := 67) rfl ?_); refine goesL_ (some 17) rfl rfl Tryd.func67 (by kernel_rfl) rfl #[.int .i64 a1, .int .i64 a2] rfl (by (try simp only [List.map_toArray, List.map_cons, List.map_nil]); first | done | rfl | (simp only [List.length_drop, List.length_take]; rfl)) ?_; (with_reducible refine (bits_Size.calls a1 a2 t261 _ A4.out).mono ?_); rintro e w' ⟨rfl, ⟨nd, rfl⟩⟩; refine ⟨_, rfl, ?_⟩))
        repeat (go_step3; try go_wp2_with (first | ((with_reducible refine gate_callee (f := 67) rfl ?_); refine goesL_ (some 17) rfl rfl Tryd.func67 (by kernel_rfl) rfl #[.int .i64 a1, .int .i64 a2] rfl (by (try simp only [List.map_toArray, List.map_cons, List.map_nil]); first | done | rfl | (simp only [List.length_drop, List.length_take]; rfl)) ?_; (with_reducible refine (bits_Size.calls a1 a2 t261 _ A4.out).mono ?_); rintro e w' ⟨rfl, ⟨nd, rfl⟩⟩; refine ⟨_, rfl, ?_⟩)))
        try rw [Exit.noGoto_ret]
        go_ret2
        exact ⟨_, by first | rfl | (simp [errW_none, errW_some] <;> rfl) | (simp [*, errW_none, errW_some] <;> rfl), by first | exact Kd.R_nil _ _ _ _ _ | exact Kd.N_nil _ _ _ _ _ | exact Kd.V_nil _ _ _ _ _ | exact Kd.Q_nil _ _ _ _ _ | exact Kd.S_nil _ _ _ _ _, by repeat (first | (with_reducible first | exact HB.out | apply below_alloc | apply pw_below_drewN | apply below_drew1) | exact HB.out)⟩
      · rw [if_neg c7] at H
        have c7b0 : decide (t261 < (l0.length : Int)) = false := decide_eq_false c7
        clear c7
        by_cases c8 : (Int.tmod (wrap64 (a1 * a2)) 8) = 0
        · rw [if_pos c8] at H
          have c8b0 : ((Int.tmod (wrap64 (a1 * a2)) 8) == 0) = true := beq_iff_eq.mpr c8
          have c8b1 : ((Int.tmod (wrap64 (a1 * a2)) 8) != 0) = false := bne_eq_false_iff_eq.mpr c8
          clear c8
          have H' := Aside0.mk H
          clear H
          go_enter Tryd.func36, Tryd.ntmps36
          go_wp2_with (first | ((with_reducible refine gate_callee (f := 67) rfl ?_); refine goesL_ (some 17) rfl rfl Tryd.func67 (by kernel_rfl) rfl #[.int .i64 a1, .int .i64 a2] rfl (by (try simp only [List.map_toArray, List.map_cons, List.map_nil]); first | done | rfl | (simp only [List.length_drop, List.length_take]; rfl)) ?_; (with_reducible refine (bits_Size.calls a1 a2 t261 _ A4.out).mono ?_); rintro e w' ⟨rfl, ⟨nd, rfl⟩⟩; refine ⟨_, rfl, ?_⟩))
          repeat (go_step3; try go_wp2_with (first | ((with_reducible refine gate_callee (f := 67) rfl ?_); refine goesL_ (some 17) rfl rfl Tryd.func67 (by kernel_rfl) rfl #[.int .i64 a1, .int .i64 a2] rfl (by (try simp only [List.map_toArray, List.map_cons, List.map_nil]); first | done | rfl | (simp only [List.length_drop, List.length_take]; rfl)) ?_; (with_reducible refine (bits_Size.calls a1 a2 t261 _ A4.out).mono ?_); rintro e w' ⟨rfl, ⟨nd, rfl⟩⟩; refine ⟨_, rfl, ?_⟩)))
          go_loopg [9, 10, 52] k (fun kq v9 v10 v52 w' => ∃ (x9_1 : List Int) (x10_1 : Int) (x52_1 : Int), v10 = .int .i64 x10_1 ∧ v52 = .int .i64 x52_1 ∧ Aside0 (bits_Unpack.l0 kq l0 a2 x9_1 x10_1 a1 x52_1 = some (r1, r2)) ∧ Aside0 (kq ≤ k) ∧ Aside0 (Kd.R (Kd.int .u64) 69 w' w.heap.size (fun _ => True) v9 x9_1) ∧ Aside0 (Below w.heap.size w w'))
          case atStart => exact ⟨(([] : List Int)), (0), (0), (by first | rfl | (simp; done) | (simp [*]; done)), (by first | rfl | (simp; done) | (simp [*]; done)), H', ⟨Nat.le_refl _⟩, ⟨by first | exact Kd.R_nil _ _ _ _ _ | exact Kd.N_nil _ _ _ _ _ | exact Kd.V_nil _ _ _ _ _ | exact Kd.Q_nil _ _ _ _ _ | exact Kd.S_nil _ _ _ _ _⟩, ⟨by repeat (first | (with_reducible first | exact HB.out | apply below_alloc | apply pw_below_drewN | apply below_drew1) | exact HB.out)⟩⟩
          case round =>
            clear H'
            try clear p2
            try clear c3
            try clear p3
            try clear c5
            try clear c5b0
            try clear c6
            try clear c6b0
            try clear p6
            try clear c7
            try clear c7b0
            try clear c8
            try clear c8b0
            try clear c8b1
            obtain ⟨x9_1, x10_1, x52_1, rfl, rfl, HA, HK1, HO_9, HB⟩ := hrel
            cases gk with
            | zero => exact absurd HA.out (by simp [bits_Unpack.l0])
            | succ k1 =>
              have H := HA.out
              clear HA
              simp only [bits_Unpack.l0] at H
              by_cases c9 : x52_1 < a1
              · rw [if_pos c9] at H
                have c9b0 : decide (x52_1 < a1) = true := decide_eq_true c9
                clear c9
                have H' := Aside0.mk H
                clear H
                go_wp2
                repeat (go_step3; try go_wp2)
                go_loopg [9, 10, 11, 12] k1 (fun kq v9 v10 v11 v12 w' => ∃ (x9_2 : List Int) (x10_2 : Int) (x11_2 : Int) (x12_2 : Int), v10 = .int .i64 x10_2 ∧ v11 = .int .u64 x11_2 ∧ v12 = .int .i64 x12_2 ∧ Aside0 (bits_Unpack.l1 kq l0 a2 x9_2 x10_2 x11_2 x12_2 a1 x52_1 = some (r1, r2)) ∧ Aside0 (kq ≤ k1) ∧ Aside0 (Kd.R (Kd.int .u64) 69 w' w.heap.size (fun _ => True) v9 x9_2) ∧ Aside0 (Below w.heap.size w w'))
                case atStart => exact ⟨(x9_1), (x10_1), (0), (0), (by first | rfl | (simp; done) | (simp [*]; done)), (by first | rfl | (simp; done) | (simp [*]; done)), (by first | rfl | (simp; done) | (simp [*]; done)), H', ⟨Nat.le_refl _⟩, ⟨by (with_reducible repeat (first | apply Kd.R_alloc | apply Kd.R_drewN | apply Kd.R_drew)); exact HO_9.out⟩, ⟨by repeat (first | (with_reducible first | exact HB.out | apply below_alloc | apply pw_below_drewN | apply below_drew1) | exact HB.out)⟩⟩
                case round =>
                  clear H'
                  try clear p2
                  try clear c3
                  try clear p3
                  try clear c5
                  try clear c5b0
                  try clear c6
                  try clear c6b0
                  try clear p6
                  try clear c7
                  try clear c7b0
                  try clear c8
                  try clear c8b0
                  try clear c8b1
                  try clear c9
                  try clear c9b0
                  try clear p2
                  try clear p3
                  try clear p6
                  obtain ⟨x9_2, x10_2, x11_2, x12_2, rfl, rfl, rfl, HA, HK2, HO_9, HB⟩ := hrel
                  cases gk with
                  | zero => exact absurd HA.out (by simp [bits_Unpack.l1])
                  | succ k2 =>
                    have H := HA.out
                    clear HA
                    simp only [bits_Unpack.l1] at H
                    by_cases c10 : x12_2 = a2
                    · rw [if_pos c10] at H
                      have c10b0 : (x12_2 == a2) = true := beq_iff_eq.mpr c10
                      have c10b1 : (x12_2 != a2) = false := bne_eq_false_iff_eq.mpr c10
                      clear c10
                      by_cases c11 : x9_2.length < 17592186044416
                      · rw [if_pos c11] at H
                        have LMc11 := Aside0.mk c11
                        clear c11
                        obtain ⟨y262, hy262⟩ : ∃ y_ : List Int, y_ = (x9_2 ++ [x11_2]) := ⟨_, rfl⟩
                        replace H : (bits_Unpack.l0 k2 l0 a2 y262 x10_2 a1 (wrap64 (x52_1 + 1))) = some (r1, r2) := by first | (rw [hy262]; with_reducible exact H) | (have H2_ := (Option.bind_some _ _).symm.trans H; rw [hy262]; with_reducible exact H2_) | (have H2_ := (Option.bind_some _ _).symm.trans H; with_reducible exact H2_) | with_reducible exact H | (rw [hy262]; exact H) | exact H
                        have Ny262 := Aside0.mk hy262
                        clear hy262
                        have H' := Aside0.mk H
                        clear H
                        go_wp2_with (first | ((with_reducible refine gate_builtin (b := .append) (xs := #[.tmp 57, .tmp 59]) rfl ?_); at_builtin; refine Kd.R_append (Kd.int .u64) (w0 := w) w.heap.size rfl (.tmp 57) (.tmp 59) 71 69 (.int .u64 0) 8 rfl Tryd.underlying71 info69 rfl (by decide) (by omega) u9 x9_2 x11_2 [.int .u64 x11_2] (fun _ => True) (fun _ => False) rfl rfl ?aP (fun _ hk => hk.elim) ?aF ?aO ?aB ?aS ?aL ?_; (case aP => exact rfl); (case aB => exact (by repeat (first | (with_reducible first | exact HB.out | apply below_alloc | apply pw_below_drewN | apply below_drew1) | exact HB.out))); (case aF => exact (fun _ _ => trivial)); (case aO => exact (by (with_reducible repeat (first | apply Kd.R_alloc | apply Kd.R_drewN | apply Kd.R_drew)); exact HO_9.out)); (case aS => exact (below_size (by repeat (first | (with_reducible first | exact HB.out | apply below_alloc | apply pw_below_drewN | apply below_drew1) | exact HB.out)))); (case aL => have := LMc11.out; omega); intro v263 w12 ho hb hg hat; rw [← Ny262.out] at ho; have n0_ := Aside0.mk (hb); have n1_ := Aside0.mk (ho); clear HB; clear HO_9; have HB := n0_; have HO264 := n1_; clear n0_ n1_; clear ho hb hg hat))
                        repeat (go_step3; try go_wp2_with (first | ((with_reducible refine gate_builtin (b := .append) (xs := #[.tmp 57, .tmp 59]) rfl ?_); at_builtin; refine Kd.R_append (Kd.int .u64) (w0 := w) w.heap.size rfl (.tmp 57) (.tmp 59) 71 69 (.int .u64 0) 8 rfl Tryd.underlying71 info69 rfl (by decide) (by omega) u9 x9_2 x11_2 [.int .u64 x11_2] (fun _ => True) (fun _ => False) rfl rfl ?aP (fun _ hk => hk.elim) ?aF ?aO ?aB ?aS ?aL ?_; (case aP => exact rfl); (case aB => exact (by repeat (first | (with_reducible first | exact HB.out | apply below_alloc | apply pw_below_drewN | apply below_drew1) | exact HB.out))); (case aF => exact (fun _ _ => trivial)); (case aO => exact (by (with_reducible repeat (first | apply Kd.R_alloc | apply Kd.R_drewN | apply Kd.R_drew)); exact HO_9.out)); (case aS => exact (below_size (by repeat (first | (with_reducible first | exact HB.out | apply below_alloc | apply pw_below_drewN | apply below_drew1) | exact HB.out)))); (case aL => have := LMc11.out; omega); intro v263 w12 ho hb hg hat; rw [← Ny262.out] at ho; have n0_ := Aside0.mk (hb); have n1_ := Aside0.mk (ho); clear HB; clear HO_9; have HB := n0_; have HO264 := n1_; clear n0_ n1_; clear ho hb hg hat)))
                        go_roundg k2
                        case measure => have := HK1.out; have := HK2.out; omega
                        case rel => exact ⟨(y262), (x10_2), (wrap64 (x52_1 + 1)), (by first | rfl | (simp; done) | (simp [*]; done)), (by first | rfl | (simp; done) | (simp [*]; done)), H', ⟨by have := HK1.out; have := HK2.out; omega⟩, ⟨by (with_reducible repeat (first | apply Kd.R_alloc | apply Kd.R_drewN | apply Kd.R_drew)); exact HO264.out⟩, ⟨by repeat (first | (with_reducible first | exact HB.out | apply below_alloc | apply pw_below_drewN | apply below_drew1) | exact HB.out)⟩⟩
                      · rw [if_neg c11] at H
                        exact absurd H (by simp)
                    · rw [if_neg c10] at H
                      have c10b0 : (x12_2 == a2) = false := beq_eq_false_iff_ne.mpr c10
                      have c10b1 : (x12_2 != a2) = true := bne_iff_ne.mpr c10
                      obtain ⟨ji13, hji13⟩ : ∃ j_ : Int, (mn (wrap64 (8 - (Int.tmod x10_2 8))) (wrap64 (a2 - x12_2))) = j_ := ⟨_, rfl⟩
                      replace H : (if 0 ≤ (wrap64 (Int.tdiv x10_2 8)) then (if (wrap64 (Int.tdiv x10_2 8)) < (l0.length : Int) then (if 0 ≤ (IntKind.u64.wrap (Int.tmod x10_2 8)) then (if 0 ≤ (IntKind.u64.wrap (ji13)) then (if 0 ≤ (IntKind.u64.wrap (x12_2)) then (bits_Unpack.l1 k2 l0 a2 x9_2 (wrap64 (x10_2 + (ji13))) (Go.bits .or .u64 x11_2 (shl .u64 (Go.bits .and .u64 (IntKind.u64.wrap (shr .u8 (rd l0 (wrap64 (Int.tdiv x10_2 8))) (IntKind.u64.wrap (Int.tmod x10_2 8)))) (IntKind.u64.wrap ((shl .u64 1 (IntKind.u64.wrap (ji13))) - 1))) (IntKind.u64.wrap (x12_2)))) (wrap64 (x12_2 + (ji13))) a1 x52_1) else (none)) else (none)) else (none)) else (none)) else (none)) = some (r1, r2) := by first | (rw [hji13] at H; exact H) | (simp only [hji13] at H ⊢; exact H)
                      have hji13_ : (if (wrap64 (a2 - x12_2)) < (wrap64 (8 - (Int.tmod x10_2 8))) then (wrap64 (a2 - x12_2)) else (wrap64 (8 - (Int.tmod x10_2 8)))) = ji13 := hji13
                      obtain ⟨ji14, hji14⟩ : ∃ j_ : Int, (wrap64 (Int.tdiv x10_2 8)) = j_ := ⟨_, rfl⟩
                      replace H : (if 0 ≤ (ji14) then (if (ji14) < (l0.length : Int) then (if 0 ≤ (IntKind.u64.wrap (Int.tmod x10_2 8)) then (if 0 ≤ (IntKind.u64.wrap (ji13)) then (if 0 ≤ (IntKind.u64.wrap (x12_2)) then (bits_Unpack.l1 k2 l0 a2 x9_2 (wrap64 (x10_2 + (ji13))) (Go.bits .or .u64 x11_2 (shl .u64 (Go.bits .and .u64 (IntKind.u64.wrap (shr .u8 (rd l0 (ji14)) (IntKind.u64.wrap (Int.tmod x10_2 8)))) (IntKind.u64.wrap ((shl .u64 1 (IntKind.u64.wrap (ji13))) - 1))) (IntKind.u64.wrap (x12_2)))) (wrap64 (x12_2 + (ji13))) a1 x52_1) else (none)) else (none)) else (none)) else (none)) else (none)) = some (r1, r2) := by first | (rw [hji14] at H; exact H) | (simp only [hji14] at H ⊢; exact H)
                      have hji14w : (IntKind.i64.wrap (Int.tdiv x10_2 8)) = ji14 := (i64_w _).trans hji14
                      by_cases c15 : 0 ≤ (ji14)
                      · rw [if_pos c15] at H
                        have c15b0 : decide (0 ≤ (ji14)) = true := decide_eq_true c15
                        clear c15
                        by_cases c16 : (ji14) < (l0.length : Int)
                        · rw [if_pos c16] at H
                          have c16b0 : decide ((ji14) < (l0.length : Int)) = true := decide_eq_true c16
                          clear c16
                          obtain ⟨ji17, hji17⟩ : ∃ j_ : Int, (IntKind.u64.wrap (Int.tmod x10_2 8)) = j_ := ⟨_, rfl⟩
                          replace H : (if 0 ≤ (ji17) then (if 0 ≤ (IntKind.u64.wrap (ji13)) then (if 0 ≤ (IntKind.u64.wrap (x12_2)) then (bits_Unpack.l1 k2 l0 a2 x9_2 (wrap64 (x10_2 + (ji13))) (Go.bits .or .u64 x11_2 (shl .u64 (Go.bits .and .u64 (IntKind.u64.wrap (shr .u8 (rd l0 (ji14)) (ji17))) (IntKind.u64.wrap ((shl .u64 1 (IntKind.u64.wrap (ji13))) - 1))) (IntKind.u64.wrap (x12_2)))) (wrap64 (x12_2 + (ji13))) a1 x52_1) else (none)) else (none)) else (none)) = some (r1, r2) := by first | (rw [hji17] at H; exact H) | (simp only [hji17] at H ⊢; exact H)
                          by_cases c18 : 0 ≤ (ji17)
                          · rw [if_pos c18] at H
                            have c18b0 := eq_true c18
                            have c18b1 : decide (0 ≤ (ji17)) = true := decide_eq_true c18
                            clear c18
                            obtain ⟨ji19, hji19⟩ : ∃ j_ : Int, (shr .u8 (rd l0 (ji14)) (ji17)) = j_ := ⟨_, rfl⟩
                            replace H : (if 0 ≤ (IntKind.u64.wrap (ji13)) then (if 0 ≤ (IntKind.u64.wrap (x12_2)) then (bits_Unpack.l1 k2 l0 a2 x9_2 (wrap64 (x10_2 + (ji13))) (Go.bits .or .u64 x11_2 (shl .u64 (Go.bits .and .u64 (IntKind.u64.wrap (ji19)) (IntKind.u64.wrap ((shl .u64 1 (IntKind.u64.wrap (ji13))) - 1))) (IntKind.u64.wrap (x12_2)))) (wrap64 (x12_2 + (ji13))) a1 x52_1) else (none)) else (none)) = some (r1, r2) := by first | (rw [hji19] at H; exact H) | (simp only [hji19] at H ⊢; exact H)
                            have hji19_ : ((rd l0 (ji14)) / 2 ^ min (ji17).toNat 8) = ji19 := hji19
                            have hji19z : (ji17) ≤ 8 → ((rd l0 (ji14)) / 2 ^ (ji17).toNat) = ji19 := shr_small hji19
                            obtain ⟨ji20, hji20⟩ : ∃ j_ : Int, (IntKind.u64.wrap (ji13)) = j_ := ⟨_, rfl⟩
                            replace H : (if 0 ≤ (ji20) then (if 0 ≤ (IntKind.u64.wrap (x12_2)) then (bits_Unpack.l1 k2 l0 a2 x9_2 (wrap64 (x10_2 + (ji13))) (Go.bits .or .u64 x11_2 (shl .u64 (Go.bits .and .u64 (IntKind.u64.wrap (ji19)) (IntKind.u64.wrap ((shl .u64 1 (ji20)) - 1))) (IntKind.u64.wrap (x12_2)))) (wrap64 (x12_2 + (ji13))) a1 x52_1) else (none)) else (none)) = some (r1, r2) := by first | (rw [hji20] at H; exact H) | (simp only [hji20] at H ⊢; exact H)
                            by_cases c21 : 0 ≤ (ji20)
                            · rw [if_pos c21] at H
                              have c21b0 := eq_true c21
                              have c21b1 : decide (0 ≤ (ji20)) = true := decide_eq_true c21
                              clear c21
                              obtain ⟨ji22, hji22⟩ : ∃ j_ : Int, (shl .u64 1 (ji20)) = j_ := ⟨_, rfl⟩
                              replace H : (if 0 ≤ (IntKind.u64.wrap (x12_2)) then (bits_Unpack.l1 k2 l0 a2 x9_2 (wrap64 (x10_2 + (ji13))) (Go.bits .or .u64 x11_2 (shl .u64 (Go.bits .and .u64 (IntKind.u64.wrap (ji19)) (IntKind.u64.wrap ((ji22) - 1))) (IntKind.u64.wrap (x12_2)))) (wrap64 (x12_2 + (ji13))) a1 x52_1) else (none)) = some (r1, r2) := by first | (rw [hji22] at H; exact H) | (simp only [hji22] at H ⊢; exact H)
                              have hji22_ : (IntKind.u64.wrap (1 * 2 ^ min (ji20).toNat 64)) = ji22 := hji22
                              have hji22z : (ji20) ≤ 64 → (IntKind.u64.wrap (1 * 2 ^ (ji20).toNat)) = ji22 := shl_small hji22
                              have hji22u : (IntKind.u64.wrap (2 ^ min (ji20).toNat 64)) = ji22 := by have h_ := hji22_; rw [Int.one_mul] at h_; exact h_
                              have hji22v : (ji20) ≤ 64 → (IntKind.u64.wrap (2 ^ (ji20).toNat)) = ji22 := fun hle_ => by have h_ := hji22z hle_; rw [Int.one_mul] at h_; exact h_
                              obtain ⟨ji23, hji23⟩ : ∃ j_ : Int, (IntKind.u64.wrap (x12_2)) = j_ := ⟨_, rfl⟩
                              replace H : (if 0 ≤ (ji23) then (bits_Unpack.l1 k2 l0 a2 x9_2 (wrap64 (x10_2 + (ji13))) (Go.bits .or .u64 x11_2 (shl .u64 (Go.bits .and .u64 (IntKind.u64.wrap (ji19)) (IntKind.u64.wrap ((ji22) - 1))) (ji23))) (wrap64 (x12_2 + (ji13))) a1 x52_1) else (none)) = some (r1, r2) := by first | (rw [hji23] at H; exact H) | (simp only [hji23] at H ⊢; exact H)
                              by_cases c24 : 0 ≤ (ji23)
                              · rw [if_pos c24] at H
                                have c24b0 := eq_true c24
                                have c24b1 : decide (0 ≤ (ji23)) = true := decide_eq_true c24
                                clear c24
                                obtain ⟨ji25, hji25⟩ : ∃ j_ : Int, (shl .u64 (Go.bits .and .u64 (IntKind.u64.wrap (ji19)) (IntKind.u64.wrap ((ji22) - 1))) (ji23)) = j_ := ⟨_, rfl⟩
                                replace H : (bits_Unpack.l1 k2 l0 a2 x9_2 (wrap64 (x10_2 + (ji13))) (Go.bits .or .u64 x11_2 (ji25)) (wrap64 (x12_2 + (ji13))) a1 x52_1) = some (r1, r2) := by first | (rw [hji25] at H; exact H) | (simp only [hji25] at H ⊢; exact H)
                                have hji25_ : (IntKind.u64.wrap ((Go.bits .and .u64 (IntKind.u64.wrap (ji19)) (IntKind.u64.wrap ((ji22) - 1))) * 2 ^ min (ji23).toNat 64)) = ji25 := hji25
                                have hji25z : (ji23) ≤ 64 → (IntKind.u64.wrap ((Go.bits .and .u64 (IntKind.u64.wrap (ji19)) (IntKind.u64.wrap ((ji22) - 1))) * 2 ^ (ji23).toNat)) = ji25 := shl_small hji25
                                have H' := Aside0.mk H
                                clear H
                                have p265 : 0 ≤ ((ji14) : Int) := of_decide_eq_true (by first | (with_reducible assumption) | assumption)
                                have q265 : (ji14) < (l0.length : Int) := of_decide_eq_true (by first | (with_reducible assumption) | assumption)
                                obtain ⟨ad265, e265, hx265_0⟩ := Kd.at_int HR0.out (ji14) p265 q265
                                cases e265
                                replace hx265_0 := (HB.out.cell (World.block_lt_of_cell? w _ hx265_0)).trans hx265_0
                                replace p265 := eq_true p265
                                replace q265 := eq_true q265
                                go_wp2
                                repeat (go_step3; try go_wp2)
                                go_roundg k2
                                case measure => have := HK1.out; have := HK2.out; omega
                                case rel => exact ⟨(x9_2), (wrap64 (x10_2 + (ji13))), (Go.bits .or .u64 x11_2 (ji25)), (wrap64 (x12_2 + (ji13))), (by first | rfl | (simp; done) | (simp only [← hji13] <;> (first | rfl | simp)) | (simp [*]; done)), (by first | rfl | (simp; done) | (simp only [← hji25] <;> (first | rfl | simp)) | (simp [*]; done)), (by first | rfl | (simp; done) | (simp only [← hji13] <;> (first | rfl | simp)) | (simp [*]; done)), H', ⟨by have := HK1.out; have := HK2.out; omega⟩, ⟨by (with_reducible repeat (first | apply Kd.R_alloc | apply Kd.R_drewN | apply Kd.R_drew)); exact HO_9.out⟩, ⟨by repeat (first | (with_reducible first | exact HB.out | apply below_alloc | apply pw_below_drewN | apply below_drew1) | exact HB.out)⟩⟩
                              · rw [if_neg c24] at H
                                exact absurd H (by simp)
                            · rw [if_neg c21] at H
                              exact absurd H (by simp)
                          · rw [if_neg c18] at H
                            exact absurd H (by simp)
                        · rw [if_neg c16] at H
                          exact absurd H (by simp)
                      · rw [if_neg c15] at H
                        exact absurd H (by simp)
              · rw [if_neg c9] at H
                have c9b0 : decide (x52_1 < a1) = false := decide_eq_false c9
                clear c9
                simp only [Option.some.injEq, Prod.mk.injEq] at H
                obtain ⟨rfl, rfl⟩ := H
                go_wp2
                repeat (go_step3; try go_wp2)
                try rw [Exit.noGoto_ret]
                go_ret2
                exact ⟨_, by first | rfl | (simp [errW_none, errW_some] <;> rfl) | (simp [*, errW_none, errW_some] <;> rfl), by (with_reducible repeat (first | apply Kd.R_alloc | apply Kd.R_drewN | apply Kd.R_drew)); exact HO_9.out, by repeat (first | (with_reducible first | exact HB.out | apply below_alloc | apply pw_below_drewN | apply below_drew1) | exact HB.out)⟩
        · rw [if_neg c8] at H
          have c8b0 : ((Int.tmod (wrap64 (a1 * a2)) 8) == 0) = false := beq_eq_false_iff_ne.mpr c8
          have c8b1 : ((Int.tmod (wrap64 (a1 * a2)) 8) != 0) = true := bne_iff_ne.mpr c8
          obtain ⟨ji26, hji26⟩ : ∃ j_ : Int, (wrap64 (t261 - 1)) = j_ := ⟨_, rfl⟩
          replace H : (if 0 ≤ (ji26) then (if (ji26) < (l0.length : Int) then (if 0 ≤ (IntKind.u64.wrap (Int.tmod (wrap64 (a1 * a2)) 8)) then (if (shr .u8 (rd l0 (ji26)) (IntKind.u64.wrap (Int.tmod (wrap64 (a1 * a2)) 8))) = 0 then (bits_Unpack.l0 k l0 a2 ([] : List Int) 0 a1 0) else (some (([] : List Int), 4))) else (none)) else (none)) else (none)) = some (r1, r2) := by first | (rw [hji26] at H; exact H) | (simp only [hji26] at H ⊢; exact H)
          (try rw [hji26] at A4)
          have hji26w : (IntKind.i64.wrap (t261 - 1)) = ji26 := (i64_w _).trans hji26
          by_cases c27 : 0 ≤ (ji26)
          · rw [if_pos c27] at H
            have c27b0 : decide (0 ≤ (ji26)) = true := decide_eq_true c27
            clear c27
            by_cases c28 : (ji26) < (l0.length : Int)
            · rw [if_pos c28] at H
              have c28b0 : decide ((ji26) < (l0.length : Int)) = true := decide_eq_true c28
              clear c28
              obtain ⟨ji29, hji29⟩ : ∃ j_ : Int, (IntKind.u64.wrap (Int.tmod (wrap64 (a1 * a2)) 8)) = j_ := ⟨_, rfl⟩
              replace H : (if 0 ≤ (ji29) then (if (shr .u8 (rd l0 (ji26)) (ji29)) = 0 then (bits_Unpack.l0 k l0 a2 ([] : List Int) 0 a1 0) else (some (([] : List Int), 4))) else (none)) = some (r1, r2) := by first | (rw [hji29] at H; exact H) | (simp only [hji29] at H ⊢; exact H)
              (try rw [hji29] at A4)
              by_cases c30 : 0 ≤ (ji29)
              · rw [if_pos c30] at H
                have c30b0 := eq_true c30
                have c30b1 : decide (0 ≤ (ji29)) = true := decide_eq_true c30
                clear c30
                obtain ⟨ji31, hji31⟩ : ∃ j_ : Int, (shr .u8 (rd l0 (ji26)) (ji29)) = j_ := ⟨_, rfl⟩
                replace H : (if (ji31) = 0 then (bits_Unpack.l0 k l0 a2 ([] : List Int) 0 a1 0) else (some (([] : List Int), 4))) = some (r1, r2) := by first | (rw [hji31] at H; exact H) | (simp only [hji31] at H ⊢; exact H)
                (try rw [hji31] at A4)
                have hji31_ : ((rd l0 (ji26)) / 2 ^ min (ji29).toNat 8) = ji31 := hji31
                have hji31z : (ji29) ≤ 8 → ((rd l0 (ji26)) / 2 ^ (ji29).toNat) = ji31 := shr_small hji31
                by_cases c32 : (ji31) = 0
                · rw [if_pos c32] at H
                  have c32b0 : ((ji31) == 0) = true := beq_iff_eq.mpr c32
                  have c32b1 : ((ji31) != 0) = false := bne_eq_false_iff_eq.mpr c32
                  clear c32
                  have H' := Aside0.mk H
                  clear H
                  go_enter Tryd.func36, Tryd.ntmps36
                  go_wp2_with (first | ((with_reducible refine gate_callee (f := 67) rfl ?_); refine goesL_ (some 17) rfl rfl Tryd.func67 (by kernel_rfl) rfl #[.int .i64 a1, .int .i64 a2] rfl (by (try simp only [List.map_toArray, List.map_cons, List.map_nil]); first | done | rfl | (simp only [List.length_drop, List.length_take]; rfl)) ?_; (with_reducible refine (bits_Size.calls a1 a2 t261 _ A4.out).mono ?_); rintro e w' ⟨rfl, ⟨nd, rfl⟩⟩; refine ⟨_, rfl, ?_⟩; have p266 : 0 ≤ ((ji26) : Int) := of_decide_eq_true (by first | (with_reducible assumption) | assumption); have q266 : (ji26) < (l0.length : Int) := of_decide_eq_true (by first | (with_reducible assumption) | assumption); obtain ⟨ad266, e266, hx266_0⟩ := Kd.at_int HR0.out (ji26) p266 q266; cases e266; replace p266 := eq_true p266; replace q266 := eq_true q266))
                  repeat (go_step3; try go_wp2_with (first | ((with_reducible refine gate_callee (f := 67) rfl ?_); refine goesL_ (some 17) rfl rfl Tryd.func67 (by kernel_rfl) rfl #[.int .i64 a1, .int .i64 a2] rfl (by (try simp only [List.map_toArray, List.map_cons, List.map_nil]); first | done | rfl | (simp only [List.length_drop, List.length_take]; rfl)) ?_; (with_reducible refine (bits_Size.calls a1 a2 t261 _ A4.out).mono ?_); rintro e w' ⟨rfl, ⟨nd, rfl⟩⟩; refine ⟨_, rfl, ?_⟩; have p266 : 0 ≤ ((ji26) : Int) := of_decide_eq_true (by first | (with_reducible assumption) | assumption); have q266 : (ji26) < (l0.length : Int) := of_decide_eq_true (by first | (with_reducible assumption) | assumption); obtain ⟨ad266, e266, hx266_0⟩ := Kd.at_int HR0.out (ji26) p266 q266; cases e266; replace p266 := eq_true p266; replace q266 := eq_true q266)))
                  go_loopg [9, 10, 52] k (fun kq v9 v10 v52 w' => ∃ (x9_1 : List Int) (x10_1 : Int) (x52_1 : Int), v10 = .int .i64 x10_1 ∧ v52 = .int .i64 x52_1 ∧ Aside0 (bits_Unpack.l0 kq l0 a2 x9_1 x10_1 a1 x52_1 = some (r1, r2)) ∧ Aside0 (kq ≤ k) ∧ Aside0 (Kd.R (Kd.int .u64) 69 w' w.heap.size (fun _ => True) v9 x9_1) ∧ Aside0 (Below w.heap.size w w'))
                  case atStart => exact ⟨(([] : List Int)), (0), (0), (by first | rfl | (simp; done) | (simp [*]; done)), (by first | rfl | (simp; done) | (simp [*]; done)), H', ⟨Nat.le_refl _⟩, ⟨by first | exact Kd.R_nil _ _ _ _ _ | exact Kd.N_nil _ _ _ _ _ | exact Kd.V_nil _ _ _ _ _ | exact Kd.Q_nil _ _ _ _ _ | exact Kd.S_nil _ _ _ _ _⟩, ⟨by repeat (first | (with_reducible first | exact HB.out | apply below_alloc | apply pw_below_drewN | apply below_drew1) | exact HB.out)⟩⟩
                  case round =>
                    clear H'
                    try clear c1
                    try clear c2
                    try clear p2
                    try clear q2
                    try clear hx2
                    try clear c3
                    try clear p3
                    try clear c5
                    try clear c5b0
                    try clear c6
                    try clear c6b0
                    try clear p6
                    try clear c7
                    try clear c7b0
                    try clear c8
                    try clear c8b0
                    try clear c8b1
                    try clear c9
                    try clear c9b0
                    try clear c10
                    try clear c10b0
                    try clear c10b1
                    try clear c11
                    try clear c15
                    try clear c15b0
                    try clear c16
                    try clear c16b0
                    try clear c18
                    try clear c18b0
                    try clear c18b1
                    try clear c21
                    try clear c21b0
                    try clear c21b1
                    try clear c24
                    try clear c24b0
                    try clear c24b1
                    try clear p26
                    try clear q26
                    try clear hx26
                    try clear c27
                    try clear c27b0
                    try clear c28
                    try clear c28b0
                    try clear c30
                    try clear c30b0
                    try clear c30b1
                    try clear c32
                    try clear c32b0
                    try clear c32b1
                    try clear hx265_0
                    try clear hx266_0
                    try clear p2
                    try clear p265
                    try clear p266
                    try clear p3
                    try clear p6
                    try clear q265
                    try clear q266
                    obtain ⟨x9_1, x10_1, x52_1, rfl, rfl, HA, HK1, HO_9, HB⟩ := hrel
                    cases gk with
                    | zero => exact absurd HA.out (by simp [bits_Unpack.l0])
                    | succ k1 =>
                      have H := HA.out
                      clear HA
                      simp only [bits_Unpack.l0] at H
                      by_cases c33 : x52_1 < a1
                      · rw [if_pos c33] at H
                        have c33b0 : decide (x52_1 < a1) = true := decide_eq_true c33
                        clear c33
                        have H' := Aside0.mk H
                        clear H
                        go_wp2
                        repeat (go_step3; try go_wp2)
                        go_loopg [9, 10, 11, 12] k1 (fun kq v9 v10 v11 v12 w' => ∃ (x9_2 : List Int) (x10_2 : Int) (x11_2 : Int) (x12_2 : Int), v10 = .int .i64 x10_2 ∧ v11 = .int .u64 x11_2 ∧ v12 = .int .i64 x12_2 ∧ Aside0 (bits_Unpack.l1 kq l0 a2 x9_2 x10_2 x11_2 x12_2 a1 x52_1 = some (r1, r2)) ∧ Aside0 (kq ≤ k1) ∧ Aside0 (Kd.R (Kd.int .u64) 69 w' w.heap.size (fun _ => True) v9 x9_2) ∧ Aside0 (Below w.heap.size w w'))
                        case atStart => exact ⟨(x9_1), (x10_1), (0), (0), (by first | rfl | (simp; done) | (simp [*]; done)), (by first | rfl | (simp; done) | (simp [*]; done)), (by first | rfl | (simp; done) | (simp [*]; done)), H', ⟨Nat.le_refl _⟩, ⟨by (with_reducible repeat (first | apply Kd.R_alloc | apply Kd.R_drewN | apply Kd.R_drew)); exact HO_9.out⟩, ⟨by repeat (first | (with_reducible first | exact HB.out | apply below_alloc | apply pw_below_drewN | apply below_drew1) | exact HB.out)⟩⟩
                        case round =>
                          clear H'
                          try clear c1
                          try clear c2
                          try clear p2
                          try clear q2
                          try clear hx2
                          try clear c3
                          try clear p3
                          try clear c5
                          try clear c5b0
                          try clear c6
                          try clear c6b0
                          try clear p6
                          try clear c7
                          try clear c7b0
                          try clear c8
                          try clear c8b0
                          try clear c8b1
                          try clear c9
                          try clear c9b0
                          try clear c10
                          try clear c10b0
                          try clear c10b1
                          try clear c11
                          try clear c15
                          try clear c15b0
                          try clear c16
                          try clear c16b0
                          try clear c18
                          try clear c18b0
                          try clear c18b1
                          try clear c21
                          try clear c21b0
                          try clear c21b1
                          try clear c24
                          try clear c24b0
                          try clear c24b1
                          try clear p26
                          try clear q26
                          try clear hx26
                          try clear c27
                          try clear c27b0
                          try clear c28
                          try clear c28b0
                          try clear c30
                          try clear c30b0
                          try clear c30b1
                          try clear c32
                          try clear c32b0
                          try clear c32b1
                          try clear c33
                          try clear c33b0
                          try clear hx265_0
                          try clear hx266_0
                          try clear p2
                          try clear p26
                          try clear p265
                          try clear p266
                          try clear p3
                          try clear p6
                          try clear q2
                          try clear q26
                          try clear q265
                          try clear q266
                          obtain ⟨x9_2, x10_2, x11_2, x12_2, rfl, rfl, rfl, HA, HK2, HO_9, HB⟩ := hrel
                          cases gk with
                          | zero => exact absurd HA.out (by simp [bits_Unpack.l1])
                          | succ k2 =>
                            have H := HA.out
                            clear HA
                            simp only [bits_Unpack.l1] at H
                            by_cases c34 : x12_2 = a2
                            · rw [if_pos c34] at H
                              have c34b0 : (x12_2 == a2) = true := beq_iff_eq.mpr c34
                              have c34b1 : (x12_2 != a2) = false := bne_eq_false_iff_eq.mpr c34
                              clear c34
                              by_cases c35 : x9_2.length < 17592186044416
                              · rw [if_pos c35] at H
                                have LMc35 := Aside0.mk c35
                                clear c35
                                obtain ⟨y262, hy262⟩ : ∃ y_ : List Int, y_ = (x9_2 ++ [x11_2]) := ⟨_, rfl⟩
                                replace H : (bits_Unpack.l0 k2 l0 a2 y262 x10_2 a1 (wrap64 (x52_1 + 1))) = some (r1, r2) := by first | (rw [hy262]; with_reducible exact H) | (have H2_ := (Option.bind_some _ _).symm.trans H; rw [hy262]; with_reducible exact H2_) | (have H2_ := (Option.bind_some _ _).symm.trans H; with_reducible exact H2_) | with_reducible exact H | (rw [hy262]; exact H) | exact H
                                have Ny262 := Aside0.mk hy262
                                clear hy262
                                have H' := Aside0.mk H
                                clear H
                                go_wp2_with (first | ((with_reducible refine gate_builtin (b := .append) (xs := #[.tmp 57, .tmp 59]) rfl ?_); at_builtin; refine Kd.R_append (Kd.int .u64) (w0 := w) w.heap.size rfl (.tmp 57) (.tmp 59) 71 69 (.int .u64 0) 8 rfl Tryd.underlying71 info69 rfl (by decide) (by omega) u9 x9_2 x11_2 [.int .u64 x11_2] (fun _ => True) (fun _ => False) rfl rfl ?aP (fun _ hk => hk.elim) ?aF ?aO ?aB ?aS ?aL ?_; (case aP => exact rfl); (case aB => exact (by repeat (first | (with_reducible first | exact HB.out | apply below_alloc | apply pw_below_drewN | apply below_drew1) | exact HB.out))); (case aF => exact (fun _ _ => trivial)); (case aO => exact (by (with_reducible repeat (first | apply Kd.R_alloc | apply Kd.R_drewN | apply Kd.R_drew)); exact HO_9.out)); (case aS => exact (below_size (by repeat (first | (with_reducible first | exact HB.out | apply below_alloc | apply pw_below_drewN | apply below_drew1) | exact HB.out)))); (case aL => have := LMc35.out; omega); intro v263 w36 ho hb hg hat; rw [← Ny262.out] at ho; have n0_ := Aside0.mk (hb); have n1_ := Aside0.mk (ho); clear HB; clear HO_9; have HB := n0_; have HO264 := n1_; clear n0_ n1_; clear ho hb hg hat))
                                repeat (go_step3; try go_wp2_with (first | ((with_reducible refine gate_builtin (b := .append) (xs := #[.tmp 57, .tmp 59]) rfl ?_); at_builtin; refine Kd.R_append (Kd.int .u64) (w0 := w) w.heap.size rfl (.tmp 57) (.tmp 59) 71 69 (.int .u64 0) 8 rfl Tryd.underlying71 info69 rfl (by decide) (by omega) u9 x9_2 x11_2 [.int .u64 x11_2] (fun _ => True) (fun _ => False) rfl rfl ?aP (fun _ hk => hk.elim) ?aF ?aO ?aB ?aS ?aL ?_; (case aP => exact rfl); (case aB => exact (by repeat (first | (with_reducible first | exact HB.out | apply below_alloc | apply pw_below_drewN | apply below_drew1) | exact HB.out))); (case aF => exact (fun _ _ => trivial)); (case aO => exact (by (with_reducible repeat (first | apply Kd.R_alloc | apply Kd.R_drewN | apply Kd.R_drew)); exact HO_9.out)); (case aS => exact (below_size (by repeat (first | (with_reducible first | exact HB.out | apply below_alloc | apply pw_below_drewN | apply below_drew1) | exact HB.out)))); (case aL => have := LMc35.out; omega); intro v263 w36 ho hb hg hat; rw [← Ny262.out] at ho; have n0_ := Aside0.mk (hb); have n1_ := Aside0.mk (ho); clear HB; clear HO_9; have HB := n0_; have HO264 := n1_; clear n0_ n1_; clear ho hb hg hat)))
                                go_roundg k2
                                case measure => have := HK1.out; have := HK2.out; omega
                                case rel => exact ⟨(y262), (x10_2), (wrap64 (x52_1 + 1)), (by first | rfl | (simp; done) | (simp [*]; done)), (by first | rfl | (simp; done) | (simp [*]; done)), H', ⟨by have := HK1.out; have := HK2.out; omega⟩, ⟨by (with_reducible repeat (first | apply Kd.R_alloc | apply Kd.R_drewN | apply Kd.R_drew)); exact HO264.out⟩, ⟨by repeat (first | (with_reducible first | exact HB.out | apply below_alloc | apply pw_below_drewN | apply below_drew1) | exact HB.out)⟩⟩
                              · rw [if_neg c35] at H
                                exact absurd H (by simp)
                            · rw [if_neg c34] at H
                              have c34b0 : (x12_2 == a2) = false := beq_eq_false_iff_ne.mpr c34
                              have c34b1 : (x12_2 != a2) = true := bne_iff_ne.mpr c34
                              obtain ⟨ji37, hji37⟩ : ∃ j_ : Int, (mn (wrap64 (8 - (Int.tmod x10_2 8))) (wrap64 (a2 - x12_2))) = j_ := ⟨_, rfl⟩
                              replace H : (if 0 ≤ (wrap64 (Int.tdiv x10_2 8)) then (if (wrap64 (Int.tdiv x10_2 8)) < (l0.length : Int) then (if 0 ≤ (IntKind.u64.wrap (Int.tmod x10_2 8)) then (if 0 ≤ (IntKind.u64.wrap (ji37)) then (if 0 ≤ (IntKind.u64.wrap (x12_2)) then (bits_Unpack.l1 k2 l0 a2 x9_2 (wrap64 (x10_2 + (ji37))) (Go.bits .or .u64 x11_2 (shl .u64 (Go.bits .and .u64 (IntKind.u64.wrap (shr .u8 (rd l0 (wrap64 (Int.tdiv x10_2 8))) (IntKind.u64.wrap (Int.tmod x10_2 8)))) (IntKind.u64.wrap ((shl .u64 1 (IntKind.u64.wrap (ji37))) - 1))) (IntKind.u64.wrap (x12_2)))) (wrap64 (x12_2 + (ji37))) a1 x52_1) else (none)) else (none)) else (none)) else (none)) else (none)) = some (r1, r2) := by first | (rw [hji37] at H; exact H) | (simp only [hji37] at H ⊢; exact H)
                              have hji37_ : (if (wrap64 (a2 - x12_2)) < (wrap64 (8 - (Int.tmod x10_2 8))) then (wrap64 (a2 - x12_2)) else (wrap64 (8 - (Int.tmod x10_2 8)))) = ji37 := hji37
                              obtain ⟨ji38, hji38⟩ : ∃ j_ : Int, (wrap64 (Int.tdiv x10_2 8)) = j_ := ⟨_, rfl⟩
                              replace H : (if 0 ≤ (ji38) then (if (ji38) < (l0.length : Int) then (if 0 ≤ (IntKind.u64.wrap (Int.tmod x10_2 8)) then (if 0 ≤ (IntKind.u64.wrap (ji37)) then (if 0 ≤ (IntKind.u64.wrap (x12_2)) then (bits_Unpack.l1 k2 l0 a2 x9_2 (wrap64 (x10_2 + (ji37))) (Go.bits .or .u64 x11_2 (shl .u64 (Go.bits .and .u64 (IntKind.u64.wrap (shr .u8 (rd l0 (ji38)) (IntKind.u64.wrap (Int.tmod x10_2 8)))) (IntKind.u64.wrap ((shl .u64 1 (IntKind.u64.wrap (ji37))) - 1))) (IntKind.u64.wrap (x12_2)))) (wrap64 (x12_2 + (ji37))) a1 x52_1) else (none)) else (none)) else (none)) else (none)) else (none)) = some (r1, r2) := by first | (rw [hji38] at H; exact H) | (simp only [hji38] at H ⊢; exact H)
                              have hji38w : (IntKind.i64.wrap (Int.tdiv x10_2 8)) = ji38 := (i64_w _).trans hji38
                              by_cases c39 : 0 ≤ (ji38)
                              · rw [if_pos c39] at H
                                have c39b0 : decide (0 ≤ (ji38)) = true := decide_eq_true c39
                                clear c39
                                by_cases c40 : (ji38) < (l0.length : Int)
                                · rw [if_pos c40] at H
                                  have c40b0 : decide ((ji38) < (l0.length : Int)) = true := decide_eq_true c40
                                  clear c40
                                  obtain ⟨ji41, hji41⟩ : ∃ j_ : Int, (IntKind.u64.wrap (Int.tmod x10_2 8)) = j_ := ⟨_, rfl⟩
                                  replace H : (if 0 ≤ (ji41) then (if 0 ≤ (IntKind.u64.wrap (ji37)) then (if 0 ≤ (IntKind.u64.wrap (x12_2)) then (bits_Unpack.l1 k2 l0 a2 x9_2 (wrap64 (x10_2 + (ji37))) (Go.bits .or .u64 x11_2 (shl .u64 (Go.bits .and .u64 (IntKind.u64.wrap (shr .u8 (rd l0 (ji38)) (ji41))) (IntKind.u64.wrap ((shl .u64 1 (IntKind.u64.wrap (ji37))) - 1))) (IntKind.u64.wrap (x12_2)))) (wrap64 (x12_2 + (ji37))) a1 x52_1) else (none)) else (none)) else (none)) = some (r1, r2) := by first | (rw [hji41] at H; exact H) | (simp only [hji41] at H ⊢; exact H)
                                  by_cases c42 : 0 ≤ (ji41)
                                  · rw [if_pos c42] at H
                                    have c42b0 := eq_true c42
                                    have c42b1 : decide (0 ≤ (ji41)) = true := decide_eq_true c42
                                    clear c42
                                    obtain ⟨ji43, hji43⟩ : ∃ j_ : Int, (shr .u8 (rd l0 (ji38)) (ji41)) = j_ := ⟨_, rfl⟩
                                    replace H : (if 0 ≤ (IntKind.u64.wrap (ji37)) then (if 0 ≤ (IntKind.u64.wrap (x12_2)) then (bits_Unpack.l1 k2 l0 a2 x9_2 (wrap64 (x10_2 + (ji37))) (Go.bits .or .u64 x11_2 (shl .u64 (Go.bits .and .u64 (IntKind.u64.wrap (ji43)) (IntKind.u64.wrap ((shl .u64 1 (IntKind.u64.wrap (ji37))) - 1))) (IntKind.u64.wrap (x12_2)))) (wrap64 (x12_2 + (ji37))) a1 x52_1) else (none)) else (none)) = some (r1, r2) := by first | (rw [hji43] at H; exact H) | (simp only [hji43] at H ⊢; exact H)
                                    have hji43_ : ((rd l0 (ji38)) / 2 ^ min (ji41).toNat 8) = ji43 := hji43
                                    have hji43z : (ji41) ≤ 8 → ((rd l0 (ji38)) / 2 ^ (ji41).toNat) = ji43 := shr_small hji43
                                    obtain ⟨ji44, hji44⟩ : ∃ j_ : Int, (IntKind.u64.wrap (ji37)) = j_ := ⟨_, rfl⟩
                                    replace H : (if 0 ≤ (ji44) then (if 0 ≤ (IntKind.u64.wrap (x12_2)) then (bits_Unpack.l1 k2 l0 a2 x9_2 (wrap64 (x10_2 + (ji37))) (Go.bits .or .u64 x11_2 (shl .u64 (Go.bits .and .u64 (IntKind.u64.wrap (ji43)) (IntKind.u64.wrap ((shl .u64 1 (ji44)) - 1))) (IntKind.u64.wrap (x12_2)))) (wrap64 (x12_2 + (ji37))) a1 x52_1) else (none)) else (none)) = some (r1, r2) := by first | (rw [hji44] at H; exact H) | (simp only [hji44] at H ⊢; exact H)
                                    by_cases c45 : 0 ≤ (ji44)
                                    · rw [if_pos c45] at H
                                      have c45b0 := eq_true c45
                                      have c45b1 : decide (0 ≤ (ji44)) = true := decide_eq_true c45
                                      clear c45
                                      obtain ⟨ji46, hji46⟩ : ∃ j_ : Int, (shl .u64 1 (ji44)) = j_ := ⟨_, rfl⟩
                                      replace H : (if 0 ≤ (IntKind.u64.wrap (x12_2)) then (bits_Unpack.l1 k2 l0 a2 x9_2 (wrap64 (x10_2 + (ji37))) (Go.bits .or .u64 x11_2 (shl .u64 (Go.bits .and .u64 (IntKind.u64.wrap (ji43)) (IntKind.u64.wrap ((ji46) - 1))) (IntKind.u64.wrap (x12_2)))) (wrap64 (x12_2 + (ji37))) a1 x52_1) else (none)) = some (r1, r2) := by first | (rw [hji46] at H; exact H) | (simp only [hji46] at H ⊢; exact H)
                                      have hji46_ : (IntKind.u64.wrap (1 * 2 ^ min (ji44).toNat 64)) = ji46 := hji46
                                      have hji46z : (ji44) ≤ 64 → (IntKind.u64.wrap (1 * 2 ^ (ji44).toNat)) = ji46 := shl_small hji46
                                      have hji46u : (IntKind.u64.wrap (2 ^ min (ji44).toNat 64)) = ji46 := by have h_ := hji46_; rw [Int.one_mul] at h_; exact h_
                                      have hji46v : (ji44) ≤ 64 → (IntKind.u64.wrap (2 ^ (ji44).toNat)) = ji46 := fun hle_ => by have h_ := hji46z hle_; rw [Int.one_mul] at h_; exact h_
                                      obtain ⟨ji47, hji47⟩ : ∃ j_ : Int, (IntKind.u64.wrap (x12_2)) = j_ := ⟨_, rfl⟩
                                      replace H : (if 0 ≤ (ji47) then (bits_Unpack.l1 k2 l0 a2 x9_2 (wrap64 (x10_2 + (ji37))) (Go.bits .or .u64 x11_2 (shl .u64 (Go.bits .and .u64 (IntKind.u64.wrap (ji43)) (IntKind.u64.wrap ((ji46) - 1))) (ji47))) (wrap64 (x12_2 + (ji37))) a1 x52_1) else (none)) = some (r1, r2) := by first | (rw [hji47] at H; exact H) | (simp only [hji47] at H ⊢; exact H)
                                      by_cases c48 : 0 ≤ (ji47)
                                      · rw [if_pos c48] at H
                                        have c48b0 := eq_true c48
                                        have c48b1 : decide (0 ≤ (ji47)) = true := decide_eq_true c48
                                        clear c48
                                        obtain ⟨ji49, hji49⟩ : ∃ j_ : Int, (shl .u64 (Go.bits .and .u64 (IntKind.u64.wrap (ji43)) (IntKind.u64.wrap ((ji46) - 1))) (ji47)) = j_ := ⟨_, rfl⟩
                                        replace H : (bits_Unpack.l1 k2 l0 a2 x9_2 (wrap64 (x10_2 + (ji37))) (Go.bits .or .u64 x11_2 (ji49)) (wrap64 (x12_2 + (ji37))) a1 x52_1) = some (r1, r2) := by first | (rw [hji49] at H; exact H) | (simp only [hji49] at H ⊢; exact H)
                                        have hji49_ : (IntKind.u64.wrap ((Go.bits .and .u64 (IntKind.u64.wrap (ji43)) (IntKind.u64.wrap ((ji46) - 1))) * 2 ^ min (ji47).toNat 64)) = ji49 := hji49
                                        have hji49z : (ji47) ≤ 64 → (IntKind.u64.wrap ((Go.bits .and .u64 (IntKind.u64.wrap (ji43)) (IntKind.u64.wrap ((ji46) - 1))) * 2 ^ (ji47).toNat)) = ji49 := shl_small hji49
                                        have H' := Aside0.mk H
                                        clear H
                                        have p265 : 0 ≤ ((ji38) : Int) := of_decide_eq_true (by first | (with_reducible assumption) | assumption)
                                        have q265 : (ji38) < (l0.length : Int) := of_decide_eq_true (by first | (with_reducible assumption) | assumption)
                                        obtain ⟨ad265, e265, hx265_0⟩ := Kd.at_int HR0.out (ji38) p265 q265
                                        obtain rfl : ad266 = ad265 := (by injection e265)
                                        replace hx265_0 := (HB.out.cell (World.block_lt_of_cell? w _ hx265_0)).trans hx265_0
                                        replace p265 := eq_true p265
                                        replace q265 := eq_true q265
                                        go_wp2
                                        repeat (go_step3; try go_wp2)
                                        go_roundg k2
                                        case measure => have := HK1.out; have := HK2.out; omega
                                        case rel => exact ⟨(x9_2), (wrap64 (x10_2 + (ji37))), (Go.bits .or .u64 x11_2 (ji49)), (wrap64 (x12_2 + (ji37))), (by first | rfl | (simp; done) | (simp only [← hji37] <;> (first | rfl | simp)) | (simp [*]; done)), (by first | rfl | (simp; done) | (simp only [← hji49] <;> (first | rfl | simp)) | (simp [*]; done)), (by first | rfl | (simp; done) | (simp only [← hji37] <;> (first | rfl | simp)) | (simp [*]; done)), H', ⟨by have := HK1.out; have := HK2.out; omega⟩, ⟨by (with_reducible repeat (first | apply Kd.R_alloc | apply Kd.R_drewN | apply Kd.R_drew)); exact HO_9.out⟩, ⟨by repeat (first | (with_reducible first | exact HB.out | apply below_alloc | apply pw_below_drewN | apply below_drew1) | exact HB.out)⟩⟩
                                      · rw [if_neg c48] at H
                                        exact absurd H (by simp)
                                    · rw [if_neg c45] at H
                                      exact absurd H (by simp)
                                  · rw [if_neg c42] at H
                                    exact absurd H (by simp)
                                · rw [if_neg c40] at H
                                  exact absurd H (by simp)
                              · rw [if_neg c39] at H
                                exact absurd H (by simp)
                      · rw [if_neg c33] at H
                        have c33b0 : decide (x52_1 < a1) = false := decide_eq_false c33
                        clear c33
                        simp only [Option.some.injEq, Prod.mk.injEq] at H
                        obtain ⟨rfl, rfl⟩ := H
                        go_wp2
                        repeat (go_step3; try go_wp2)
                        try rw [Exit.noGoto_ret]
                        go_ret2
                        exact ⟨_, by first | rfl | (simp [errW_none, errW_some] <;> rfl) | (simp only [← hji26, ← hji29, ← hji31]; first | rfl | (simp [errW_none, errW_some] <;> rfl)) | (simp [*, errW_none, errW_some] <;> rfl), by (with_reducible repeat (first | apply Kd.R_alloc | apply Kd.R_drewN | apply Kd.R_drew)); exact HO_9.out, by repeat (first | (with_reducible first | exact HB.out | apply below_alloc | apply pw_below_drewN | apply below_drew1) | exact HB.out)⟩
                · rw [if_neg c32] at H
                  have c32b0 : ((ji31) == 0) = false := beq_eq_false_iff_ne.mpr c32
                  have c32b1 : ((ji31) != 0) = true := bne_iff_ne.mpr c32
                  simp only [Option.some.injEq, Prod.mk.injEq] at H
                  obtain ⟨rfl, rfl⟩ := H
                  go_enter Tryd.func36, Tryd.ntmps36
                  go_wp2_with (first | ((with_reducible refine gate_callee (f := 67) rfl ?_); refine goesL_ (some 17) rfl rfl Tryd.func67 (by kernel_rfl) rfl #[.int .i64 a1, .int .i64 a2] rfl (by (try simp only [List.map_toArray, List.map_cons, List.map_nil]); first | done | rfl | (simp only [List.length_drop, List.length_take]; rfl)) ?_; (with_reducible refine (bits_Size.calls a1 a2 t261 _ A4.out).mono ?_); rintro e w' ⟨rfl, ⟨nd, rfl⟩⟩; refine ⟨_, rfl, ?_⟩; have p266 : 0 ≤ ((ji26) : Int) := of_decide_eq_true (by first | (with_reducible assumption) | assumption); have q266 : (ji26) < (l0.length : Int) := of_decide_eq_true (by first | (with_reducible assumption) | assumption); obtain ⟨ad266, e266, hx266_0⟩ := Kd.at_int HR0.out (ji26) p266 q266; cases e266; replace p266 := eq_true p266; replace q266 := eq_true q266))
                  repeat (go_step3; try go_wp2_with (first | ((with_reducible refine gate_callee (f := 67) rfl ?_); refine goesL_ (some 17) rfl rfl Tryd.func67 (by kernel_rfl) rfl #[.int .i64 a1, .int .i64 a2] rfl (by (try simp only [List.map_toArray, List.map_cons, List.map_nil]); first | done | rfl | (simp only [List.length_drop, List.length_take]; rfl)) ?_; (with_reducible refine (bits_Size.calls a1 a2 t261 _ A4.out).mono ?_); rintro e w' ⟨rfl, ⟨nd, rfl⟩⟩; refine ⟨_, rfl, ?_⟩; have p266 : 0 ≤ ((ji26) : Int) := of_decide_eq_true (by first | (with_reducible assumption) | assumption); have q266 : (ji26) < (l0.length : Int) := of_decide_eq_true (by first | (with_reducible assumption) | assumption); obtain ⟨ad266, e266, hx266_0⟩ := Kd.at_int HR0.out (ji26) p266 q266; cases e266; replace p266 := eq_true p266; replace q266 := eq_true q266)))
                  try rw [Exit.noGoto_ret]
                  go_ret2
                  exact ⟨_, by first | rfl | (simp [errW_none, errW_some] <;> rfl) | (simp only [← hji26, ← hji29, ← hji31]; first | rfl | (simp [errW_none, errW_some] <;> rfl)) | (simp [*, errW_none, errW_some] <;> rfl), by first | exact Kd.R_nil _ _ _ _ _ | exact Kd.N_nil _ _ _ _ _ | exact Kd.V_nil _ _ _ _ _ | exact Kd.Q_nil _ _ _ _ _ | exact Kd.S_nil _ _ _ _ _, by repeat (first | (with_reducible first | exact HB.out | apply below_alloc | apply pw_below_drewN | apply below_drew1) | exact HB.out)⟩
              · rw [if_neg c30] at H
                exact absurd H (by simp)
            · rw [if_neg c28] at H
              exact absurd H (by simp)
          · rw [if_neg c27] at H
            exact absurd H (by simp)

/-! ### slices_Index_bool_bool: function 74 -/
def slices_Index_bool_bool.l0 : Nat → List Bool → Bool → Int → Int → Option (Int)
  | 0, _, _, _, _ => none
  | k + 1, x0, x1, x7, x8 => if x8 < x7 then (if 0 ≤ x8 then (if x8 < (x0.length : Int) then (if (x1 == (rdOf false x0 x8)) = true then (some x8) else (slices_Index_bool_bool.l0 k x0 x1 x7 (wrap64 (x8 + 1)))) else (none)) else (none)) else (some (-1))
def slices_Index_bool_bool.f (k : Nat) (l0 : List Bool) (a1 : Bool) : Option (Int) := slices_Index_bool_bool.l0 k l0 a1 (l0.length : Int) 0
set_option maxHeartbeats 8000000 in
set_option maxRecDepth 100000 in
theorem slices_Index_bool_bool.calls (k : Nat) (A0 : Option Addr) (c0 : Nat) (l0 : List Bool) (a1 : Bool) (r : Int) (w : World) (hr0 : Kd.C Kd.bool w A0 l0.length l0) (hc0 : l0.length ≤ c0) (h : slices_Index_bool_bool.f k l0 a1 = some r) :
    Calls Tryd.prog 74 #[.slice A0 l0.length c0, .bool a1] w fun e w' => e = .returned (.int .i64 r) ∧ Drawn0 w w' := by
  have HR0 := Aside0.mk hr0
  have HC0 := Aside0.mk hc0
  clear hr0 hc0
  have H : (slices_Index_bool_bool.l0 k l0 a1 (l0.length : Int) 0) = some r := h
  clear h
  have H' := Aside0.mk H
  clear H
  go_enter Tryd.func74, Tryd.ntmps74
  go_wp2
  go_loopg [8] k (fun kq v8 w' => ∃ (x8_1 : Int), v8 = .int .i64 x8_1 ∧ Aside0 (slices_Index_bool_bool.l0 kq l0 a1 (l0.length : Int) x8_1 = some r) ∧ Aside0 (kq ≤ k) ∧ Drawn0 w w')
  case atStart => exact ⟨(0), (by first | rfl | (simp; done) | (simp [*]; done)), H', ⟨Nat.le_refl _⟩, by repeat (first | exact Drawn0.refl _ | apply Drawn0.step)⟩
  case round =>
    clear H'
    try clear p2
    obtain ⟨x8_1, rfl, HA, HK1, ⟨m1, rfl⟩⟩ := hrel
    cases gk with
    | zero => exact absurd HA.out (by simp [slices_Index_bool_bool.l0])
    | succ k1 =>
      have H := HA.out
      clear HA
      simp only [slices_Index_bool_bool.l0] at H
      by_cases c3 : x8_1 < (l0.length : Int)
      · rw [if_pos c3] at H
        have c3b0 : decide (x8_1 < (l0.length : Int)) = true := decide_eq_true c3
        clear c3
        by_cases c4 : 0 ≤ x8_1
        · rw [if_pos c4] at H
          have c4b0 : decide (0 ≤ x8_1) = true := decide_eq_true c4
          clear c4
          by_cases c5 : x8_1 < (l0.length : Int)
          · rw [if_pos c5] at H
            have c5b0 : decide (x8_1 < (l0.length : Int)) = true := decide_eq_true c5
            clear c5
            by_cases c6 : (a1 == (rdOf false l0 x8_1)) = true
            · rw [if_pos c6] at H
              have c6b0 : (a1 == (rdOf false l0 x8_1)) = true := c6
              (try (have c6b1 : decide (a1 = (rdOf false l0 x8_1)) = true := by simpa using c6))
              (try (have c6b2 : (a1 == (rdOf false l0 x8_1)) = true := by simpa using c6))
              clear c6
              obtain rfl := Option.some.inj H
              have p267 : 0 ≤ (x8_1 : Int) := of_decide_eq_true (by first | (with_reducible assumption) | assumption)
              have q267 : x8_1 < (l0.length : Int) := of_decide_eq_true (by first | (with_reducible assumption) | assumption)
              obtain ⟨ad267, e267, hx267_0⟩ := Kd.at_bool HR0.out x8_1 p267 q267
              cases e267
              replace p267 := eq_true p267
              replace q267 := eq_true q267
              go_wp2
              go_ret
              exact ⟨by first | rfl | (simp; done) | (simp [*]; done), by repeat (first | exact Drawn0.refl _ | apply Drawn0.step)⟩
            · rw [if_neg c6] at H
              have c6b0 : (a1 == (rdOf false l0 x8_1)) = false := by simpa using c6
              (try (have c6b1 : decide (a1 = (rdOf false l0 x8_1)) = false := by simpa using c6))
              (try (have c6b2 : (a1 == (rdOf false l0 x8_1)) = false := by simpa using c6))
              (try (have c6b3 : ¬ (a1 = (rdOf false l0 x8_1)) := by simpa using c6))
              clear c6
              have H' := Aside0.mk H
              clear H
              have p267 : 0 ≤ (x8_1 : Int) := of_decide_eq_true (by first | (with_reducible assumption) | assumption)
              have q267 : x8_1 < (l0.length : Int) := of_decide_eq_true (by first | (with_reducible assumption) | assumption)
              obtain ⟨ad267, e267, hx267_0⟩ := Kd.at_bool HR0.out x8_1 p267 q267
              cases e267
              replace p267 := eq_true p267
              replace q267 := eq_true q267
              go_wp2
              go_roundg k1
              case measure => have := HK1.out; omega
              case rel => exact ⟨(wrap64 (x8_1 + 1)), (by first | rfl | (simp; done) | (simp [*]; done)), H', ⟨by have := HK1.out; omega⟩, by repeat (first | exact Drawn0.refl _ | apply Drawn0.step)⟩
          · rw [if_neg c5] at H
            exact absurd H (by simp)
        · rw [if_neg c4] at H
          exact absurd H (by simp)
      · rw [if_neg c3] at H
        have c3b0 : decide (x8_1 < (l0.length : Int)) = false := decide_eq_false c3
        clear c3
        obtain rfl := Option.some.inj H
        go_wp2
        go_ret
        exact ⟨by first | rfl | (simp; done) | (simp [*]; done), by repeat (first | exact Drawn0.refl _ | apply Drawn0.step)⟩

/-! ### slices_Contains_bool_bool: function 39 -/
def slices_Contains_bool_bool.f (k : Nat) (l0 : List Bool) (a1 : Bool) : Option (Bool) := (slices_Index_bool_bool.f k l0 a1).bind fun t268 => (some (decide (t268 ≥ 0)))
set_option maxHeartbeats 8000000 in
set_option maxRecDepth 100000 in
theorem slices_Contains_bool_bool.calls (k : Nat) (A0 : Option Addr) (c0 : Nat) (l0 : List Bool) (a1 : Bool) (r : Bool) (w : World) (hr0 : Kd.C Kd.bool w A0 l0.length l0) (hc0 : l0.length ≤ c0) (h : slices_Contains_bool_bool.f k l0 a1 = some r) :
    Calls Tryd.prog 39 #[.slice A0 l0.length c0, .bool a1] w fun e w' => e = .returned (.bool r) ∧ Drawn0 w w' := by
  have HR0 := Aside0.mk hr0
  have HC0 := Aside0.mk hc0
  clear hr0 hc0
  have H : ((slices_Index_bool_bool.f k l0 a1).bind fun t268 => (some (decide (t268 ≥ 0)))) = some r := h
  clear h
  replace H := Option.bind_eq_some_iff.mp H
  obtain ⟨t268, A30, H⟩ := H
  replace H : (some (decide (t268 ≥ 0))) = some r := H
  have A3 := Aside0.mk A30
  clear A30
  obtain rfl := Option.some.inj H
  go_enter Tryd.func39, Tryd.ntmps39
  go_wp2_with (first | ((with_reducible refine gate_callee (f := 74) rfl ?_); refine goesL_ (some 7) rfl rfl Tryd.func74 (by kernel_rfl) rfl #[.slice A0 l0.length c0, .bool a1] rfl (by (try simp only [List.map_toArray, List.map_cons, List.map_nil]); first | done | rfl | (simp only [List.length_drop, List.length_take]; rfl)) ?_; (with_reducible refine (slices_Index_bool_bool.calls k _ _ l0 a1 t268 _ ?side1 ?side2 A3.out).mono ?_); (case side1 => repeat (first | exact HR0.out | (with_reducible refine Kd.C_alloc ?_ _) | (with_reducible refine Kd.C_drewN ?_ _) | (with_reducible refine Kd.C_drew ?_))); (case side2 => exact HC0.out); rintro e w' ⟨rfl, ⟨nd, rfl⟩⟩; refine ⟨_, rfl, ?_⟩))
  go_ret
  exact ⟨by first | rfl | (simp; done) | (simp [*]; done), by repeat (first | exact Drawn0.refl _ | apply Drawn0.step)⟩

end Go.Proofs.YtbkocklahdlgkaaDoor.PTextsBack
