/- WRITTEN BY A PROGRAM of this session (wip/tool: a turned copy of the printer), out of the translation: Lean functions with the answers of the Go functions, and the proofs that the Go code comes to them. -/
import Derived.Test.YtieddojplhmhgaaDoorPTextsGetsx0
import Derived.Test.YtieddojplhmhgaaDoorPTextsGetsx8
import Derived.Test.YtieddojplhmhgaaDoorPTextsGetsx9
namespace Go.Proofs.YtieddojplhmhgaaDoor.PTextsGets
open Go.RowKit Go.Proofs.YtieddojplhmhgaaDoorW.PrintWords Go.Proofs.YtieddojplhmhgaaDoorW.PrintLast Go.Proofs.YtieddojplhmhgaaDoorW.PrintMore
attribute [local go_sem] max2_int min2_int max_two min_two max_three min_three max_four min_four   -- for this text's walks alone
set_option linter.unusedVariables false
set_option linter.unusedSimpArgs false

/-! ### estreatref02_Unpack: function 50 -/
mutual
def estreatref02_Unpack.l0 : Nat → List Int → Int → Int → Int → Int → Option (List Int × Int)
  | 0, _, _, _, _, _ => none
  | k + 1, x0, x1, x2, x8, x9 => if x9 < (wrap64 (8 * x8)) then (if 0 ≤ (wrap64 (Int.tdiv x9 8)) then (if (wrap64 (Int.tdiv x9 8)) < (x0.length : Int) then ((estreatref02_bit.f (IntKind.u64.wrap (rd x0 (wrap64 (Int.tdiv x9 8)))) (Int.tmod x9 8)).bind fun t332 => (if t332 = true then (some (([] : List Int), 4)) else (estreatref02_Unpack.l0 k x0 x1 x2 x8 (wrap64 (x9 + 1))))) else (none)) else (none)) else (estreatref02_Unpack.l1 k x0 x1 x2 ([] : List Int) 0)
def estreatref02_Unpack.l1 : Nat → List Int → Int → Int → List Int → Int → Option (List Int × Int)
  | 0, _, _, _, _, _ => none
  | k + 1, x0, x1, x2, x10, x11 => if x11 < x1 then (estreatref02_Unpack.l2 k x0 x1 x2 x10 x11 0 (wrap64 (x2 - 1))) else (some (x10, 0))
def estreatref02_Unpack.l2 : Nat → List Int → Int → Int → List Int → Int → Int → Int → Option (List Int × Int)
  | 0, _, _, _, _, _, _, _ => none
  | k + 1, x0, x1, x2, x10, x11, x12, x13 => if x13 ≥ 0 then (if 0 ≤ (wrap64 (Int.tdiv (wrap64 ((wrap64 (x11 * x2)) + x13)) 8)) then (if (wrap64 (Int.tdiv (wrap64 ((wrap64 (x11 * x2)) + x13)) 8)) < (x0.length : Int) then ((estreatref02_bit.f (IntKind.u64.wrap (rd x0 (wrap64 (Int.tdiv (wrap64 ((wrap64 (x11 * x2)) + x13)) 8)))) (Int.tmod (wrap64 ((wrap64 (x11 * x2)) + x13)) 8)).bind fun t334 => (if t334 = true then (estreatref02_Unpack.l2 k x0 x1 x2 x10 x11 (IntKind.u64.wrap ((IntKind.u64.wrap (2 * x12)) + 1)) (wrap64 (x13 - 1))) else (estreatref02_Unpack.l2 k x0 x1 x2 x10 x11 (IntKind.u64.wrap (2 * x12)) (wrap64 (x13 - 1))))) else (none)) else (none)) else (if x10.length < 17592186044416 then (estreatref02_Unpack.l1 k x0 x1 x2 (x10 ++ [x12]) (wrap64 (x11 + 1))) else (none))
end
def estreatref02_Unpack.f (k : Nat) (l0 : List Int) (a1 : Int) (a2 : Int) : Option (List Int × Int) := (estreatref02_Size.f k a1 a2).bind fun t330 => (if t330 < 0 then (some (([] : List Int), 1)) else (if (l0.length : Int) < t330 then (some (([] : List Int), 2)) else (if (l0.length : Int) > t330 then (some (([] : List Int), 3)) else (estreatref02_Unpack.l0 k l0 a1 a2 t330 (wrap64 (a1 * a2))))))
set_option maxHeartbeats 8000000 in
set_option maxRecDepth 100000 in
theorem estreatref02_Unpack.calls (k : Nat) (A0 : Option Addr) (c0 : Nat) (l0 : List Int) (a1 : Int) (a2 : Int) (r1 : List Int) (r2 : Int) (w : World) (hr0 : Kd.C (Kd.int .u8) w A0 l0.length l0) (hc0 : l0.length ≤ c0) (h : estreatref02_Unpack.f k l0 a1 a2 = some (r1, r2)) :
    Calls Tryd.prog 50 #[.slice A0 l0.length c0, .int .i64 a1, .int .i64 a2] w fun e w' => ∃ v0_ : Value, e = .returned (.tuple #[v0_, .int .i64 r2]) ∧ Kd.R (Kd.int .u64) 45 w' w.heap.size (fun _ => True) v0_ r1 ∧ Below w.heap.size w w' := by
  have HR0 := Aside0.mk hr0
  have HC0 := Aside0.mk hc0
  clear hr0 hc0
  have HB := Aside0.mk (Below.refl w.heap.size w)
  have H : ((estreatref02_Size.f k a1 a2).bind fun t330 => (if t330 < 0 then (some (([] : List Int), 1)) else (if (l0.length : Int) < t330 then (some (([] : List Int), 2)) else (if (l0.length : Int) > t330 then (some (([] : List Int), 3)) else (estreatref02_Unpack.l0 k l0 a1 a2 t330 (wrap64 (a1 * a2))))))) = some (r1, r2) := h
  clear h
  replace H := Option.bind_eq_some_iff.mp H
  obtain ⟨t330, A40, H⟩ := H
  replace H : (if t330 < 0 then (some (([] : List Int), 1)) else (if (l0.length : Int) < t330 then (some (([] : List Int), 2)) else (if (l0.length : Int) > t330 then (some (([] : List Int), 3)) else (estreatref02_Unpack.l0 k l0 a1 a2 t330 (wrap64 (a1 * a2)))))) = some (r1, r2) := H
  have A4 := Aside0.mk A40
  clear A40
  by_cases c5 : t330 < 0
  · rw [if_pos c5] at H
    have c5b0 : decide (t330 < 0) = true := decide_eq_true c5
    clear c5
    simp only [Option.some.injEq, Prod.mk.injEq] at H
    obtain ⟨rfl, rfl⟩ := H
    go_enter Tryd.func50, Tryd.ntmps50
    go_wp2_with (first | ((with_reducible refine gate_callee (f := 77) rfl ?_); refine goesL_ (some 17) rfl rfl Tryd.func77 (by kernel_rfl) rfl #[.int .i64 a1, .int .i64 a2] rfl (by (try simp only [List.map_toArray, List.map_cons, List.map_nil]); first | done | rfl | (simp only [List.length_drop, List.length_take]; rfl)) ?_; (with_reducible refine (estreatref02_Size.calls k a1 a2 t330 _ A4.out).mono ?_); rintro e w' ⟨rfl, ⟨nd, rfl⟩⟩; refine ⟨_, rfl, ?_⟩))
    go_ret2
    exact ⟨_, by first | rfl | (simp [errW_none, errW_some] <;> rfl) | (simp [*, errW_none, errW_some] <;> rfl), by first | exact Kd.R_nil _ _ _ _ _ | exact Kd.N_nil _ _ _ _ _ | exact Kd.V_nil _ _ _ _ _ | exact Kd.Q_nil _ _ _ _ _ | exact Kd.S_nil _ _ _ _ _, by repeat (first | (with_reducible first | exact HB.out | apply below_alloc | apply pw_below_drewN | apply below_drew1) | exact HB.out)⟩
  · rw [if_neg c5] at H
    have c5b0 : decide (t330 < 0) = false := decide_eq_false c5
    clear c5
    by_cases c6 : (l0.length : Int) < t330
    · rw [if_pos c6] at H
      have c6b0 : decide ((l0.length : Int) < t330) = true := decide_eq_true c6
      clear c6
      simp only [Option.some.injEq, Prod.mk.injEq] at H
      obtain ⟨rfl, rfl⟩ := H
      go_enter Tryd.func50, Tryd.ntmps50
      go_wp2_with (first | ((with_reducible refine gate_callee (f := 77) rfl ?_); refine goesL_ (some 17) rfl rfl Tryd.func77 (by kernel_rfl) rfl #[.int .i64 a1, .int .i64 a2] rfl (by (try simp only [List.map_toArray, List.map_cons, List.map_nil]); first | done | rfl | (simp only [List.length_drop, List.length_take]; rfl)) ?_; (with_reducible refine (estreatref02_Size.calls k a1 a2 t330 _ A4.out).mono ?_); rintro e w' ⟨rfl, ⟨nd, rfl⟩⟩; refine ⟨_, rfl, ?_⟩))
      go_ret2
      exact ⟨_, by first | rfl | (simp [errW_none, errW_some] <;> rfl) | (simp [*, errW_none, errW_some] <;> rfl), by first | exact Kd.R_nil _ _ _ _ _ | exact Kd.N_nil _ _ _ _ _ | exact Kd.V_nil _ _ _ _ _ | exact Kd.Q_nil _ _ _ _ _ | exact Kd.S_nil _ _ _ _ _, by repeat (first | (with_reducible first | exact HB.out | apply below_alloc | apply pw_below_drewN | apply below_drew1) | exact HB.out)⟩
    · rw [if_neg c6] at H
      have c6b0 : decide ((l0.length : Int) < t330) = false := decide_eq_false c6
      clear c6
      by_cases c7 : (l0.length : Int) > t330
      · rw [if_pos c7] at H
        have c7b0 : decide (t330 < (l0.length : Int)) = true := decide_eq_true c7
        clear c7
        simp only [Option.some.injEq, Prod.mk.injEq] at H
        obtain ⟨rfl, rfl⟩ := H
        go_enter Tryd.func50, Tryd.ntmps50
        go_wp2_with (first | ((with_reducible refine gate_callee (f := 77) rfl ?_); refine goesL_ (some 17) rfl rfl Tryd.func77 (by kernel_rfl) rfl #[.int .i64 a1, .int .i64 a2] rfl (by (try simp only [List.map_toArray, List.map_cons, List.map_nil]); first | done | rfl | (simp only [List.length_drop, List.length_take]; rfl)) ?_; (with_reducible refine (estreatref02_Size.calls k a1 a2 t330 _ A4.out).mono ?_); rintro e w' ⟨rfl, ⟨nd, rfl⟩⟩; refine ⟨_, rfl, ?_⟩))
        go_ret2
        exact ⟨_, by first | rfl | (simp [errW_none, errW_some] <;> rfl) | (simp [*, errW_none, errW_some] <;> rfl), by first | exact Kd.R_nil _ _ _ _ _ | exact Kd.N_nil _ _ _ _ _ | exact Kd.V_nil _ _ _ _ _ | exact Kd.Q_nil _ _ _ _ _ | exact Kd.S_nil _ _ _ _ _, by repeat (first | (with_reducible first | exact HB.out | apply below_alloc | apply pw_below_drewN | apply below_drew1) | exact HB.out)⟩
      · rw [if_neg c7] at H
        have c7b0 : decide (t330 < (l0.length : Int)) = false := decide_eq_false c7
        clear c7
        have H' := Aside0.mk H
        clear H
        go_enter Tryd.func50, Tryd.ntmps50
        go_wp2_with (first | ((with_reducible refine gate_callee (f := 77) rfl ?_); refine goesL_ (some 17) rfl rfl Tryd.func77 (by kernel_rfl) rfl #[.int .i64 a1, .int .i64 a2] rfl (by (try simp only [List.map_toArray, List.map_cons, List.map_nil]); first | done | rfl | (simp only [List.length_drop, List.length_take]; rfl)) ?_; (with_reducible refine (estreatref02_Size.calls k a1 a2 t330 _ A4.out).mono ?_); rintro e w' ⟨rfl, ⟨nd, rfl⟩⟩; refine ⟨_, rfl, ?_⟩))
        go_loopg [9] k (fun kq v9 w' => ∃ (x9_1 : Int), v9 = .int .i64 x9_1 ∧ Aside0 (estreatref02_Unpack.l0 kq l0 a1 a2 t330 x9_1 = some (r1, r2)) ∧ Aside0 (kq ≤ k) ∧ Aside0 (Below w.heap.size w w'))
        case atStart => exact ⟨(wrap64 (a1 * a2)), (by first | rfl | (simp; done) | (simp [*]; done)), H', ⟨Nat.le_refl _⟩, ⟨by repeat (first | (with_reducible first | exact HB.out | apply below_alloc | apply pw_below_drewN | apply below_drew1) | exact HB.out)⟩⟩
        case round =>
          clear H'
          try clear p2
          try clear c5
          try clear c5b0
          try clear c6
          try clear c6b0
          try clear p6
          try clear c7
          try clear c7b0
          obtain ⟨x9_1, rfl, HA, HK1, HB⟩ := hrel
          cases gk with
          | zero => exact absurd HA.out (by simp [estreatref02_Unpack.l0])
          | succ k1 =>
            have H := HA.out
            clear HA
            simp only [estreatref02_Unpack.l0] at H
            by_cases c8 : x9_1 < (wrap64 (8 * t330))
            · rw [if_pos c8] at H
              have c8b0 : decide (x9_1 < (wrap64 (8 * t330))) = true := decide_eq_true c8
              clear c8
              obtain ⟨ji9, hji9⟩ : ∃ j_ : Int, (wrap64 (Int.tdiv x9_1 8)) = j_ := ⟨_, rfl⟩
              replace H : (if 0 ≤ (ji9) then (if (ji9) < (l0.length : Int) then ((estreatref02_bit.f (IntKind.u64.wrap (rd l0 (ji9))) (Int.tmod x9_1 8)).bind fun t332 => (if t332 = true then (some (([] : List Int), 4)) else (estreatref02_Unpack.l0 k1 l0 a1 a2 t330 (wrap64 (x9_1 + 1))))) else (none)) else (none)) = some (r1, r2) := by first | (rw [hji9] at H; exact H) | (simp only [hji9] at H ⊢; exact H)
              have hji9w : (IntKind.i64.wrap (Int.tdiv x9_1 8)) = ji9 := (i64_w _).trans hji9
              by_cases c10 : 0 ≤ (ji9)
              · rw [if_pos c10] at H
                have c10b0 : decide (0 ≤ (ji9)) = true := decide_eq_true c10
                clear c10
                by_cases c11 : (ji9) < (l0.length : Int)
                · rw [if_pos c11] at H
                  have c11b0 : decide ((ji9) < (l0.length : Int)) = true := decide_eq_true c11
                  clear c11
                  replace H := Option.bind_eq_some_iff.mp H
                  obtain ⟨t332, A120, H⟩ := H
                  replace H : (if t332 = true then (some (([] : List Int), 4)) else (estreatref02_Unpack.l0 k1 l0 a1 a2 t330 (wrap64 (x9_1 + 1)))) = some (r1, r2) := H
                  have A12 := Aside0.mk A120
                  clear A120
                  by_cases c13 : t332 = true
                  · subst c13
                    have H1 : (some (([] : List Int), 4)) = some (r1, r2) := by rw [if_pos rfl] at H; exact H
                    clear H
                    have H := H1
                    clear H1
                    simp only [Option.some.injEq, Prod.mk.injEq] at H
                    obtain ⟨rfl, rfl⟩ := H
                    have p331 : 0 ≤ ((ji9) : Int) := of_decide_eq_true (by first | (with_reducible assumption) | assumption)
                    have q331 : (ji9) < (l0.length : Int) := of_decide_eq_true (by first | (with_reducible assumption) | assumption)
                    obtain ⟨ad331, e331, hx331_0⟩ := Kd.at_int HR0.out (ji9) p331 q331
                    cases e331
                    replace hx331_0 := (HB.out.cell (World.block_lt_of_cell? w _ hx331_0)).trans hx331_0
                    replace p331 := eq_true p331
                    replace q331 := eq_true q331
                    go_wp2_with (first | ((with_reducible refine gate_callee (f := 78) rfl ?_); refine goesL_ (some 45) rfl rfl Tryd.func78 (by kernel_rfl) rfl #[.int .u64 (IntKind.u64.wrap (rd l0 (ji9))), .int .i64 (Int.tmod x9_1 8)] rfl (by (try simp only [List.map_toArray, List.map_cons, List.map_nil]); first | done | (simp only [hji9]; rfl) | rfl | (simp only [List.length_drop, List.length_take]; rfl)) ?_; (with_reducible refine (estreatref02_bit.calls (IntKind.u64.wrap (rd l0 (ji9))) (Int.tmod x9_1 8) true _ A12.out).mono ?_); rintro e w' ⟨rfl, ⟨nd, rfl⟩⟩; refine ⟨_, rfl, ?_⟩))
                    go_ret2
                    exact ⟨_, by first | rfl | (simp [errW_none, errW_some] <;> rfl) | (simp only [← hji9]; first | rfl | (simp [errW_none, errW_some] <;> rfl)) | (simp [*, errW_none, errW_some] <;> rfl), by first | exact Kd.R_nil _ _ _ _ _ | exact Kd.N_nil _ _ _ _ _ | exact Kd.V_nil _ _ _ _ _ | exact Kd.Q_nil _ _ _ _ _ | exact Kd.S_nil _ _ _ _ _, by repeat (first | (with_reducible first | exact HB.out | apply below_alloc | apply pw_below_drewN | apply below_drew1) | exact HB.out)⟩
                  · replace c13 := Bool.eq_false_iff.mpr c13
                    subst c13
                    have H1 : (estreatref02_Unpack.l0 k1 l0 a1 a2 t330 (wrap64 (x9_1 + 1))) = some (r1, r2) := by rw [if_neg (show ¬ (false = true) by decide)] at H; exact H
                    clear H
                    have H := H1
                    clear H1
                    have H' := Aside0.mk H
                    clear H
                    have p331 : 0 ≤ ((ji9) : Int) := of_decide_eq_true (by first | (with_reducible assumption) | assumption)
                    have q331 : (ji9) < (l0.length : Int) := of_decide_eq_true (by first | (with_reducible assumption) | assumption)
                    obtain ⟨ad331, e331, hx331_0⟩ := Kd.at_int HR0.out (ji9) p331 q331
                    cases e331
                    replace hx331_0 := (HB.out.cell (World.block_lt_of_cell? w _ hx331_0)).trans hx331_0
                    replace p331 := eq_true p331
                    replace q331 := eq_true q331
                    go_wp2_with (first | ((with_reducible refine gate_callee (f := 78) rfl ?_); refine goesL_ (some 45) rfl rfl Tryd.func78 (by kernel_rfl) rfl #[.int .u64 (IntKind.u64.wrap (rd l0 (ji9))), .int .i64 (Int.tmod x9_1 8)] rfl (by (try simp only [List.map_toArray, List.map_cons, List.map_nil]); first | done | (simp only [hji9]; rfl) | rfl | (simp only [List.length_drop, List.length_take]; rfl)) ?_; (with_reducible refine (estreatref02_bit.calls (IntKind.u64.wrap (rd l0 (ji9))) (Int.tmod x9_1 8) false _ A12.out).mono ?_); rintro e w' ⟨rfl, ⟨nd, rfl⟩⟩; refine ⟨_, rfl, ?_⟩))
                    go_roundg k1
                    case measure => have := HK1.out; omega
                    case rel => exact ⟨(wrap64 (x9_1 + 1)), (by first | rfl | (simp; done) | (simp [*]; done)), H', ⟨by have := HK1.out; omega⟩, ⟨by repeat (first | (with_reducible first | exact HB.out | apply below_alloc | apply pw_below_drewN | apply below_drew1) | exact HB.out)⟩⟩
                · rw [if_neg c11] at H
                  exact absurd H (by simp)
              · rw [if_neg c10] at H
                exact absurd H (by simp)
            · rw [if_neg c8] at H
              have c8b0 : decide (x9_1 < (wrap64 (8 * t330))) = false := decide_eq_false c8
              clear c8
              have H' := Aside0.mk H
              clear H
              go_wp2
              go_loopg [10, 11] k1 (fun kq v10 v11 w' => ∃ (x10_2 : List Int) (x11_2 : Int), v11 = .int .i64 x11_2 ∧ Aside0 (estreatref02_Unpack.l1 kq l0 a1 a2 x10_2 x11_2 = some (r1, r2)) ∧ Aside0 (kq ≤ k1) ∧ Aside0 (Kd.R (Kd.int .u64) 45 w' w.heap.size (fun _ => True) v10 x10_2) ∧ Aside0 (Below w.heap.size w w'))
              case atStart => exact ⟨(([] : List Int)), (0), (by first | rfl | (simp; done) | (simp [*]; done)), H', ⟨Nat.le_refl _⟩, ⟨by first | exact Kd.R_nil _ _ _ _ _ | exact Kd.N_nil _ _ _ _ _ | exact Kd.V_nil _ _ _ _ _ | exact Kd.Q_nil _ _ _ _ _ | exact Kd.S_nil _ _ _ _ _⟩, ⟨by repeat (first | (with_reducible first | exact HB.out | apply below_alloc | apply pw_below_drewN | apply below_drew1) | exact HB.out)⟩⟩
              case round =>
                clear H'
                try clear c1
                try clear p2
                try clear p3
                try clear q3
                try clear hx3
                try clear c5
                try clear c5b0
                try clear c6
                try clear c6b0
                try clear p6
                try clear c7
                try clear c7b0
                try clear c8
                try clear c8b0
                try clear c10
                try clear c10b0
                try clear c11
                try clear c11b0
                try clear c13
                try clear hx331_0
                try clear p2
                try clear p331
                try clear p6
                try clear q331
                obtain ⟨x10_2, x11_2, rfl, HA, HK2, HO_10, HB⟩ := hrel
                cases gk with
                | zero => exact absurd HA.out (by simp [estreatref02_Unpack.l1])
                | succ k2 =>
                  have H := HA.out
                  clear HA
                  simp only [estreatref02_Unpack.l1] at H
                  by_cases c14 : x11_2 < a1
                  · rw [if_pos c14] at H
                    have c14b0 : decide (x11_2 < a1) = true := decide_eq_true c14
                    clear c14
                    have H' := Aside0.mk H
                    clear H
                    go_wp2
                    go_loopg [12, 13] k2 (fun kq v12 v13 w' => ∃ (x12_3 : Int) (x13_3 : Int), v12 = .int .u64 x12_3 ∧ v13 = .int .i64 x13_3 ∧ Aside0 (estreatref02_Unpack.l2 kq l0 a1 a2 x10_2 x11_2 x12_3 x13_3 = some (r1, r2)) ∧ Aside0 (kq ≤ k2) ∧ Aside0 (Kd.R (Kd.int .u64) 45 w' w.heap.size (fun _ => True) u10 x10_2) ∧ Aside0 (Below w.heap.size w w'))
                    case atStart => exact ⟨(0), (wrap64 (a2 - 1)), (by first | rfl | (simp; done) | (simp [*]; done)), (by first | rfl | (simp; done) | (simp [*]; done)), H', ⟨Nat.le_refl _⟩, ⟨by (with_reducible repeat (first | apply Kd.R_alloc | apply Kd.R_drewN | apply Kd.R_drew)); exact HO_10.out⟩, ⟨by repeat (first | (with_reducible first | exact HB.out | apply below_alloc | apply pw_below_drewN | apply below_drew1) | exact HB.out)⟩⟩
                    case round =>
                      clear H'
                      try clear c1
                      try clear p2
                      try clear p3
                      try clear q3
                      try clear hx3
                      try clear c5
                      try clear c5b0
                      try clear c6
                      try clear c6b0
                      try clear p6
                      try clear c7
                      try clear c7b0
                      try clear c8
                      try clear c8b0
                      try clear c10
                      try clear c10b0
                      try clear c11
                      try clear c11b0
                      try clear c13
                      try clear c14
                      try clear c14b0
                      try clear hx331_0
                      try clear p2
                      try clear p3
                      try clear p331
                      try clear p6
                      try clear q3
                      try clear q331
                      obtain ⟨x12_3, x13_3, rfl, rfl, HA, HK3, HO_10, HB⟩ := hrel
                      cases gk with
                      | zero => exact absurd HA.out (by simp [estreatref02_Unpack.l2])
                      | succ k3 =>
                        have H := HA.out
                        clear HA
                        simp only [estreatref02_Unpack.l2] at H
                        by_cases c15 : x13_3 ≥ 0
                        · rw [if_pos c15] at H
                          have c15b0 : decide (0 ≤ x13_3) = true := decide_eq_true c15
                          clear c15
                          obtain ⟨ji16, hji16⟩ : ∃ j_ : Int, (wrap64 (Int.tdiv (wrap64 ((wrap64 (x11_2 * a2)) + x13_3)) 8)) = j_ := ⟨_, rfl⟩
                          replace H : (if 0 ≤ (ji16) then (if (ji16) < (l0.length : Int) then ((estreatref02_bit.f (IntKind.u64.wrap (rd l0 (ji16))) (Int.tmod (wrap64 ((wrap64 (x11_2 * a2)) + x13_3)) 8)).bind fun t334 => (if t334 = true then (estreatref02_Unpack.l2 k3 l0 a1 a2 x10_2 x11_2 (IntKind.u64.wrap ((IntKind.u64.wrap (2 * x12_3)) + 1)) (wrap64 (x13_3 - 1))) else (estreatref02_Unpack.l2 k3 l0 a1 a2 x10_2 x11_2 (IntKind.u64.wrap (2 * x12_3)) (wrap64 (x13_3 - 1))))) else (none)) else (none)) = some (r1, r2) := by first | (rw [hji16] at H; exact H) | (simp only [hji16] at H ⊢; exact H)
                          have hji16w : (IntKind.i64.wrap (Int.tdiv (wrap64 ((wrap64 (x11_2 * a2)) + x13_3)) 8)) = ji16 := (i64_w _).trans hji16
                          by_cases c17 : 0 ≤ (ji16)
                          · rw [if_pos c17] at H
                            have c17b0 : decide (0 ≤ (ji16)) = true := decide_eq_true c17
                            clear c17
                            by_cases c18 : (ji16) < (l0.length : Int)
                            · rw [if_pos c18] at H
                              have c18b0 : decide ((ji16) < (l0.length : Int)) = true := decide_eq_true c18
                              clear c18
                              replace H := Option.bind_eq_some_iff.mp H
                              obtain ⟨t334, A190, H⟩ := H
                              replace H : (if t334 = true then (estreatref02_Unpack.l2 k3 l0 a1 a2 x10_2 x11_2 (IntKind.u64.wrap ((IntKind.u64.wrap (2 * x12_3)) + 1)) (wrap64 (x13_3 - 1))) else (estreatref02_Unpack.l2 k3 l0 a1 a2 x10_2 x11_2 (IntKind.u64.wrap (2 * x12_3)) (wrap64 (x13_3 - 1)))) = some (r1, r2) := H
                              have A19 := Aside0.mk A190
                              clear A190
                              by_cases c20 : t334 = true
                              · subst c20
                                have H1 : (estreatref02_Unpack.l2 k3 l0 a1 a2 x10_2 x11_2 (IntKind.u64.wrap ((IntKind.u64.wrap (2 * x12_3)) + 1)) (wrap64 (x13_3 - 1))) = some (r1, r2) := by rw [if_pos rfl] at H; exact H
                                clear H
                                have H := H1
                                clear H1
                                have H' := Aside0.mk H
                                clear H
                                have p333 : 0 ≤ ((ji16) : Int) := of_decide_eq_true (by first | (with_reducible assumption) | assumption)
                                have q333 : (ji16) < (l0.length : Int) := of_decide_eq_true (by first | (with_reducible assumption) | assumption)
                                obtain ⟨ad333, e333, hx333_0⟩ := Kd.at_int HR0.out (ji16) p333 q333
                                cases e333
                                replace hx333_0 := (HB.out.cell (World.block_lt_of_cell? w _ hx333_0)).trans hx333_0
                                replace p333 := eq_true p333
                                replace q333 := eq_true q333
                                go_wp2_with (first | ((with_reducible refine gate_callee (f := 78) rfl ?_); refine goesL_ (some 72) rfl rfl Tryd.func78 (by kernel_rfl) rfl #[.int .u64 (IntKind.u64.wrap (rd l0 (ji16))), .int .i64 (Int.tmod (wrap64 ((wrap64 (x11_2 * a2)) + x13_3)) 8)] rfl (by (try simp only [List.map_toArray, List.map_cons, List.map_nil]); first | done | (simp only [hji16]; rfl) | rfl | (simp only [List.length_drop, List.length_take]; rfl)) ?_; (with_reducible refine (estreatref02_bit.calls (IntKind.u64.wrap (rd l0 (ji16))) (Int.tmod (wrap64 ((wrap64 (x11_2 * a2)) + x13_3)) 8) true _ A19.out).mono ?_); rintro e w' ⟨rfl, ⟨nd, rfl⟩⟩; refine ⟨_, rfl, ?_⟩))
                                go_roundg k3
                                case measure => have := HK1.out; have := HK2.out; have := HK3.out; omega
                                case rel => exact ⟨(IntKind.u64.wrap ((IntKind.u64.wrap (2 * x12_3)) + 1)), (wrap64 (x13_3 - 1)), (by first | rfl | (simp; done) | (simp [*]; done)), (by first | rfl | (simp; done) | (simp [*]; done)), H', ⟨by have := HK1.out; have := HK2.out; have := HK3.out; omega⟩, ⟨by (with_reducible repeat (first | apply Kd.R_alloc | apply Kd.R_drewN | apply Kd.R_drew)); exact HO_10.out⟩, ⟨by repeat (first | (with_reducible first | exact HB.out | apply below_alloc | apply pw_below_drewN | apply below_drew1) | exact HB.out)⟩⟩
                              · replace c20 := Bool.eq_false_iff.mpr c20
                                subst c20
                                have H1 : (estreatref02_Unpack.l2 k3 l0 a1 a2 x10_2 x11_2 (IntKind.u64.wrap (2 * x12_3)) (wrap64 (x13_3 - 1))) = some (r1, r2) := by rw [if_neg (show ¬ (false = true) by decide)] at H; exact H
                                clear H
                                have H := H1
                                clear H1
                                have H' := Aside0.mk H
                                clear H
                                have p333 : 0 ≤ ((ji16) : Int) := of_decide_eq_true (by first | (with_reducible assumption) | assumption)
                                have q333 : (ji16) < (l0.length : Int) := of_decide_eq_true (by first | (with_reducible assumption) | assumption)
                                obtain ⟨ad333, e333, hx333_0⟩ := Kd.at_int HR0.out (ji16) p333 q333
                                cases e333
                                replace hx333_0 := (HB.out.cell (World.block_lt_of_cell? w _ hx333_0)).trans hx333_0
                                replace p333 := eq_true p333
                                replace q333 := eq_true q333
                                go_wp2_with (first | ((with_reducible refine gate_callee (f := 78) rfl ?_); refine goesL_ (some 72) rfl rfl Tryd.func78 (by kernel_rfl) rfl #[.int .u64 (IntKind.u64.wrap (rd l0 (ji16))), .int .i64 (Int.tmod (wrap64 ((wrap64 (x11_2 * a2)) + x13_3)) 8)] rfl (by (try simp only [List.map_toArray, List.map_cons, List.map_nil]); first | done | (simp only [hji16]; rfl) | rfl | (simp only [List.length_drop, List.length_take]; rfl)) ?_; (with_reducible refine (estreatref02_bit.calls (IntKind.u64.wrap (rd l0 (ji16))) (Int.tmod (wrap64 ((wrap64 (x11_2 * a2)) + x13_3)) 8) false _ A19.out).mono ?_); rintro e w' ⟨rfl, ⟨nd, rfl⟩⟩; refine ⟨_, rfl, ?_⟩))
                                go_roundg k3
                                case measure => have := HK1.out; have := HK2.out; have := HK3.out; omega
                                case rel => exact ⟨(IntKind.u64.wrap (2 * x12_3)), (wrap64 (x13_3 - 1)), (by first | rfl | (simp; done) | (simp [*]; done)), (by first | rfl | (simp; done) | (simp [*]; done)), H', ⟨by have := HK1.out; have := HK2.out; have := HK3.out; omega⟩, ⟨by (with_reducible repeat (first | apply Kd.R_alloc | apply Kd.R_drewN | apply Kd.R_drew)); exact HO_10.out⟩, ⟨by repeat (first | (with_reducible first | exact HB.out | apply below_alloc | apply pw_below_drewN | apply below_drew1) | exact HB.out)⟩⟩
                            · rw [if_neg c18] at H
                              exact absurd H (by simp)
                          · rw [if_neg c17] at H
                            exact absurd H (by simp)
                        · rw [if_neg c15] at H
                          have c15b0 : decide (0 ≤ x13_3) = false := decide_eq_false c15
                          clear c15
                          by_cases c21 : x10_2.length < 17592186044416
                          · rw [if_pos c21] at H
                            have LMc21 := Aside0.mk c21
                            clear c21
                            obtain ⟨y335, hy335⟩ : ∃ y_ : List Int, y_ = (x10_2 ++ [x12_3]) := ⟨_, rfl⟩
                            replace H : (estreatref02_Unpack.l1 k3 l0 a1 a2 y335 (wrap64 (x11_2 + 1))) = some (r1, r2) := by first | (rw [hy335]; with_reducible exact H) | (have H2_ := (Option.bind_some _ _).symm.trans H; rw [hy335]; with_reducible exact H2_) | (have H2_ := (Option.bind_some _ _).symm.trans H; with_reducible exact H2_) | with_reducible exact H | (rw [hy335]; exact H) | exact H
                            have Ny335 := Aside0.mk hy335
                            clear hy335
                            have H' := Aside0.mk H
                            clear H
                            go_wp2_with (first | ((with_reducible refine gate_builtin (b := .append) (xs := #[.tmp 75, .tmp 77]) rfl ?_); at_builtin; refine Kd.R_append (Kd.int .u64) (w0 := w) w.heap.size rfl (.tmp 75) (.tmp 77) 44 45 (.int .u64 0) 8 rfl Tryd.underlying44 info45 rfl (by decide) (by omega) u10 x10_2 x12_3 [.int .u64 x12_3] (fun _ => True) (fun _ => False) rfl rfl ?aP (fun _ hk => hk.elim) ?aF ?aO ?aB ?aS ?aL ?_; (case aP => exact rfl); (case aB => exact (by repeat (first | (with_reducible first | exact HB.out | apply below_alloc | apply pw_below_drewN | apply below_drew1) | exact HB.out))); (case aF => exact (fun _ _ => trivial)); (case aO => exact (by (with_reducible repeat (first | apply Kd.R_alloc | apply Kd.R_drewN | apply Kd.R_drew)); exact HO_10.out)); (case aS => exact (below_size (by repeat (first | (with_reducible first | exact HB.out | apply below_alloc | apply pw_below_drewN | apply below_drew1) | exact HB.out)))); (case aL => have := LMc21.out; omega); intro v336 w22 ho hb hg hat; rw [← Ny335.out] at ho; have n0_ := Aside0.mk (hb); have n1_ := Aside0.mk (ho); clear HB; clear HO_10; have HB := n0_; have HO337 := n1_; clear n0_ n1_; clear ho hb hg hat))
                            go_roundg k3
                            case measure => have := HK1.out; have := HK2.out; have := HK3.out; omega
                            case rel => exact ⟨(y335), (wrap64 (x11_2 + 1)), (by first | rfl | (simp; done) | (simp [*]; done)), H', ⟨by have := HK1.out; have := HK2.out; have := HK3.out; omega⟩, ⟨by (with_reducible repeat (first | apply Kd.R_alloc | apply Kd.R_drewN | apply Kd.R_drew)); exact HO337.out⟩, ⟨by repeat (first | (with_reducible first | exact HB.out | apply below_alloc | apply pw_below_drewN | apply below_drew1) | exact HB.out)⟩⟩
                          · rw [if_neg c21] at H
                            exact absurd H (by simp)
                  · rw [if_neg c14] at H
                    have c14b0 : decide (x11_2 < a1) = false := decide_eq_false c14
                    clear c14
                    simp only [Option.some.injEq, Prod.mk.injEq] at H
                    obtain ⟨rfl, rfl⟩ := H
                    go_wp2
                    go_ret2
                    exact ⟨_, by first | rfl | (simp [errW_none, errW_some] <;> rfl) | (simp [*, errW_none, errW_some] <;> rfl), by (with_reducible repeat (first | apply Kd.R_alloc | apply Kd.R_drewN | apply Kd.R_drew)); exact HO_10.out, by repeat (first | (with_reducible first | exact HB.out | apply below_alloc | apply pw_below_drewN | apply below_drew1) | exact HB.out)⟩

/-! ### estreatref11_Width: function 57 -/
def estreatref11_Width.l0 : Nat → Int → Int → Int → Option (Int)
  | 0, _, _, _ => none
  | k + 1, x0, x3, x4 => if x4 < x0 then (estreatref11_Width.l0 k x0 (wrap64 (x3 + 1)) (wrap64 (2 * x4))) else (some x3)
def estreatref11_Width.f (k : Nat) (a0 : Int) : Option (Int) := estreatref11_Width.l0 k a0 0 1
set_option maxHeartbeats 8000000 in
set_option maxRecDepth 100000 in
theorem estreatref11_Width.calls (k : Nat) (a0 : Int) (r : Int) (w : World) (h : estreatref11_Width.f k a0 = some r) :
    Calls Tryd.prog 57 #[.int .i64 a0] w fun e w' => e = .returned (.int .i64 r) ∧ Drawn0 w w' := by
  have H : (estreatref11_Width.l0 k a0 0 1) = some r := h
  clear h
  have H' := Aside0.mk H
  clear H
  go_enter Tryd.func57, Tryd.ntmps57
  go_wp2
  go_loopg [3, 4] k (fun kq v3 v4 w' => ∃ (x3_1 : Int) (x4_1 : Int), v3 = .int .i64 x3_1 ∧ v4 = .int .i64 x4_1 ∧ Aside0 (estreatref11_Width.l0 kq a0 x3_1 x4_1 = some r) ∧ Aside0 (kq ≤ k) ∧ Drawn0 w w')
  case atStart => exact ⟨(0), (1), (by first | rfl | (simp; done) | (simp [*]; done)), (by first | rfl | (simp; done) | (simp [*]; done)), H', ⟨Nat.le_refl _⟩, by repeat (first | exact Drawn0.refl _ | apply Drawn0.step)⟩
  case round =>
    clear H'
    obtain ⟨x3_1, x4_1, rfl, rfl, HA, HK1, ⟨m1, rfl⟩⟩ := hrel
    cases gk with
    | zero => exact absurd HA.out (by simp [estreatref11_Width.l0])
    | succ k1 =>
      have H := HA.out
      clear HA
      simp only [estreatref11_Width.l0] at H
      by_cases c2 : x4_1 < a0
      · rw [if_pos c2] at H
        have c2b0 : decide (x4_1 < a0) = true := decide_eq_true c2
        clear c2
        have H' := Aside0.mk H
        clear H
        go_wp2
        go_roundg k1
        case measure => have := HK1.out; omega
        case rel => exact ⟨(wrap64 (x3_1 + 1)), (wrap64 (2 * x4_1)), (by first | rfl | (simp; done) | (simp [*]; done)), (by first | rfl | (simp; done) | (simp [*]; done)), H', ⟨by have := HK1.out; omega⟩, by repeat (first | exact Drawn0.refl _ | apply Drawn0.step)⟩
      · rw [if_neg c2] at H
        have c2b0 : decide (x4_1 < a0) = false := decide_eq_false c2
        clear c2
        obtain rfl := Option.some.inj H
        go_wp2
        go_ret
        exact ⟨by first | rfl | (simp; done) | (simp [*]; done), by repeat (first | exact Drawn0.refl _ | apply Drawn0.step)⟩

/-! ### estreatref01_Reader_Blob: function 65 -/
def estreatref01_Reader_Blob.f (k : Nat) (s0_0 : List Int) (s0_1 : Int) (s0_2 : Int) (s0_3 : Int) (a1 : Int) : Option (List Int × Int × Int × Int) :=
  if s0_2 ≠ 0 then some ([], s0_1, s0_2, s0_3)
  else if 0 ≤ s0_1 ∧ s0_1 ≤ (s0_0.length : Int) ∧ (s0_0.length : Int) ≤ 140737488355328 then
    (estreatref01_look.f k (s0_0.drop s0_1.toNat)).bind fun t =>
      if t.2.2 ≠ 0 then some ([], s0_1, t.2.2, s0_1)
      else if 0 ≤ t.2.1 ∧ s0_1 + t.2.1 ≤ (s0_0.length : Int) ∧ 0 ≤ t.1 ∧ t.1 < 18446744073709551616 then
        if a1 < 0 ∨ IntKind.u64.wrap a1 < t.1 then some ([], s0_1, 12, s0_1)
        else if (s0_0.length : Int) - s0_1 - t.2.1 < t.1 then some ([], s0_1, 2, s0_1)
        else estreatref01_Reader_Take.f s0_0 (s0_1 + t.2.1) 0 s0_3 t.1
      else none
  else none
set_option maxRecDepth 100000 in
set_option maxHeartbeats 16000000 in
theorem estreatref01_Reader_Blob.calls (k : Nat) (g : Nat) (s0_0 : List Int) (s0_1 : Int) (s0_2 : Int) (s0_3 : Int) (a1 : Int) (r1 : List Int) (r2 r3 r4 : Int) (w0 w : World) (hI : IsS66 w0 w g s0_0 s0_1 s0_2 s0_3) (hB : Below w0.heap.size w0 w) (h : estreatref01_Reader_Blob.f k s0_0 s0_1 s0_2 s0_3 a1 = some (r1, r2, r3, r4)) :
    Calls Tryd.prog 65 #[.pointer (some ⟨g, 0, none⟩), .int .i64 a1] w fun e w' => ∃ v0_ : Value, e = .returned v0_ ∧ (Kd.int .u8).R 5 w' w.heap.size (fun _ => True) v0_ r1 ∧ IsS66 w0 w' g s0_0 r2 r3 r4 ∧ Below w0.heap.size w0 w' ∧ KeepBut w w' g none := by
  unfold estreatref01_Reader_Blob.f at h
  have hI0 := hI
  obtain ⟨A1, c1, hb, _, hC0, hcc⟩ := id hI
  have hc0 := cellS66_0 hb
  have hc1 := cellS66_1 hb
  have hc2 := cellS66_2 hb
  have hfz := fun j => blk_frozen hb j
  have hg := hI.ge
  by_cases h0 : s0_2 ≠ 0
  · rw [if_pos h0] at h
    simp only [Option.some.injEq, Prod.mk.injEq] at h
    obtain ⟨rfl, rfl, rfl, rfl⟩ := h
    have d0 : (s0_2 != 0) = true := bne_iff_ne.mpr h0
    go_enter Tryd.func65, Tryd.ntmps65
    go_wp2
    go_ret
    exact ⟨_, rfl, Kd.R_nil _ _ _ _ _, hI0, hB, KeepBut.refl _ _ _⟩
  rw [if_neg h0] at h
  by_cases hb0 : 0 ≤ s0_1 ∧ s0_1 ≤ (s0_0.length : Int) ∧ (s0_0.length : Int) ≤ 140737488355328
  case neg => rw [if_neg hb0] at h; cases h
  rw [if_pos hb0] at h
  obtain ⟨⟨t1, t2, t3⟩, ht, hh⟩ := Option.bind_eq_some_iff.mp h
  clear h
  have h := hh
  clear hh
  dsimp only at h
  obtain ⟨hb1, hb2, hb3⟩ := hb0
  have h0 : s0_2 = 0 := by simpa using h0
  subst h0
  have hC := Kd.C_below hC0 hB
  have hmid := Kd.C_drop (m := s0_1.toNat) hC (by omega) hcc
  have hmid : (Kd.int .u8).C w (if c1 = s0_1.toNat then A1 else A1.map (fun x => x.add s0_1.toNat)) (s0_0.drop s0_1.toNat).length (s0_0.drop s0_1.toNat) := by simpa [Kd.int, Kd.scalar] using hmid
  have hst : s0_0.length - s0_1.toNat = (s0_0.drop s0_1.toNat).length := by rw [List.length_drop]
  have hle : (s0_0.drop s0_1.toNat).length ≤ c1 - s0_1.toNat := by omega
  have hl5 : s0_1 ≤ (c1 : Int) := by omega
  have hKC : (Kd.int .u8).C w.drew (if c1 = s0_1.toNat then A1 else A1.map (fun x => x.add s0_1.toNat)) (s0_0.drop s0_1.toNat).length (s0_0.drop s0_1.toNat) := Kd.C_below hmid (below_drew1 (Below.refl _ _))
  have hLK := fun (A0 : Option Addr) (c0 : Nat) (W : World) h1 h2 => estreatref01_look.calls k A0 c0 (s0_0.drop s0_1.toNat) t1 t2 t3 W h1 h2 ht
  generalize hL : s0_0.drop s0_1.toNat = l1 at *
  clear hmid hL ht hC hC0 hb
  have hw : wrap64 ((s0_0.length : Int) - s0_1) = (s0_0.length : Int) - s0_1 := by unfold wrap64; omega
  by_cases h3 : t3 ≠ 0
  · rw [if_pos h3] at h
    have h3 : ¬ t3 = 0 := h3
    simp only [Option.some.injEq, Prod.mk.injEq] at h
    obtain ⟨rfl, e2, e3, e4⟩ := h
    subst e2 e3 e4
    have d3 : (t3 == 0) = false := beq_eq_false_iff_ne.mpr h3
    have d3' : (t3 != 0) = true := bne_iff_ne.mpr h3
    have hF := fun W h1 h2 => estreatref01_Reader_Fail.calls g s0_0 s0_1 0 s0_3 t3 s0_1 t3 s0_1 w0 W h1 h2 (by simp [estreatref01_Reader_Fail.f, h3])
    by_cases hcs : c1 = s0_1.toNat
    case' pos => rw [if_pos hcs] at hKC; subst hcs
    case' neg => rw [if_neg hcs] at hKC
    all_goals
      go_enter Tryd.func65, Tryd.ntmps65
      go_wp2
      go_region_with (go_at_call 74; refine (hLK _ _ _ hKC (by omega)).mono ?_; rintro e w2 ⟨rfl, ⟨m, rfl⟩⟩)
      all_goals
        go_wp2_with (go_at_call 75; refine (hF _ (by repeat (first | exact hI0 | apply IsS66.drewN | apply IsS66.drew)) (by repeat (first | exact hB | apply pw_below_drewN | apply below_drew1))).mono ?_; rintro e w5 ⟨rfl, hI5, hB5, hK5⟩)
        repeat (go_quiet (fail); try go_wp2_with (go_at_call 75; refine (hF _ (by repeat (first | exact hI0 | apply IsS66.drewN | apply IsS66.drew)) (by repeat (first | exact hB | apply pw_below_drewN | apply below_drew1))).mono ?_; rintro e w5 ⟨rfl, hI5, hB5, hK5⟩))
        go_ret
        exact ⟨_, rfl, Kd.R_nil _ _ _ _ _, hI5, hB5, KeepBut.trans (by repeat (first | exact KeepBut.refl _ _ _ | apply keep_drewN | apply keep_drew)) hK5 (.inl rfl)⟩
  rw [if_neg h3] at h
  have h3 : t3 = 0 := by simpa using h3
  subst h3
  by_cases hb4 : 0 ≤ t2 ∧ s0_1 + t2 ≤ (s0_0.length : Int) ∧ 0 ≤ t1 ∧ t1 < 18446744073709551616
  case neg => rw [if_neg hb4] at h; cases h
  rw [if_pos hb4] at h
  obtain ⟨hb5, hb6, hb7, hb8⟩ := hb4
  by_cases h4 : a1 < 0
  · rw [if_pos (.inl h4)] at h
    simp only [Option.some.injEq, Prod.mk.injEq] at h
    obtain ⟨rfl, e2, rfl, e4⟩ := h
    subst e2 e4
    have d4 : decide (a1 < 0) = true := decide_eq_true h4
    have hF := fun W h1 h2 => estreatref01_Reader_Fail.calls g s0_0 s0_1 0 s0_3 12 s0_1 12 s0_1 w0 W h1 h2 (by simp [estreatref01_Reader_Fail.f])
    by_cases hcs : c1 = s0_1.toNat
    case' pos => rw [if_pos hcs] at hKC; subst hcs
    case' neg => rw [if_neg hcs] at hKC
    all_goals
      go_enter Tryd.func65, Tryd.ntmps65
      go_wp2
      go_region_with (go_at_call 74; refine (hLK _ _ _ hKC (by omega)).mono ?_; rintro e w2 ⟨rfl, ⟨m, rfl⟩⟩)
      all_goals
        go_wp2_with (go_at_call 75; refine (hF _ (by repeat (first | exact hI0 | apply IsS66.drewN | apply IsS66.drew)) (by repeat (first | exact hB | apply pw_below_drewN | apply below_drew1))).mono ?_; rintro e w5 ⟨rfl, hI5, hB5, hK5⟩)
        repeat (go_quiet (fail); try go_wp2_with (go_at_call 75; refine (hF _ (by repeat (first | exact hI0 | apply IsS66.drewN | apply IsS66.drew)) (by repeat (first | exact hB | apply pw_below_drewN | apply below_drew1))).mono ?_; rintro e w5 ⟨rfl, hI5, hB5, hK5⟩))
        go_ret
        exact ⟨_, rfl, Kd.R_nil _ _ _ _ _, hI5, hB5, KeepBut.trans (by repeat (first | exact KeepBut.refl _ _ _ | apply keep_drewN | apply keep_drew)) hK5 (.inl rfl)⟩
  have d4 : decide (a1 < 0) = false := decide_eq_false h4
  by_cases h6 : IntKind.u64.wrap a1 < t1
  · rw [if_pos (.inr h6)] at h
    simp only [Option.some.injEq, Prod.mk.injEq] at h
    obtain ⟨rfl, e2, rfl, e4⟩ := h
    subst e2 e4
    have d6 : decide (IntKind.u64.wrap a1 < t1) = true := decide_eq_true h6
    have hF := fun W h1 h2 => estreatref01_Reader_Fail.calls g s0_0 s0_1 0 s0_3 12 s0_1 12 s0_1 w0 W h1 h2 (by simp [estreatref01_Reader_Fail.f])
    by_cases hcs : c1 = s0_1.toNat
    case' pos => rw [if_pos hcs] at hKC; subst hcs
    case' neg => rw [if_neg hcs] at hKC
    all_goals
      go_enter Tryd.func65, Tryd.ntmps65
      go_wp2
      go_region_with (go_at_call 74; refine (hLK _ _ _ hKC (by omega)).mono ?_; rintro e w2 ⟨rfl, ⟨m, rfl⟩⟩)
      all_goals
        go_wp2_with (go_at_call 75; refine (hF _ (by repeat (first | exact hI0 | apply IsS66.drewN | apply IsS66.drew)) (by repeat (first | exact hB | apply pw_below_drewN | apply below_drew1))).mono ?_; rintro e w5 ⟨rfl, hI5, hB5, hK5⟩)
        repeat (go_quiet (fail); try go_wp2_with (go_at_call 75; refine (hF _ (by repeat (first | exact hI0 | apply IsS66.drewN | apply IsS66.drew)) (by repeat (first | exact hB | apply pw_below_drewN | apply below_drew1))).mono ?_; rintro e w5 ⟨rfl, hI5, hB5, hK5⟩))
        go_ret
        exact ⟨_, rfl, Kd.R_nil _ _ _ _ _, hI5, hB5, KeepBut.trans (by repeat (first | exact KeepBut.refl _ _ _ | apply keep_drewN | apply keep_drew)) hK5 (.inl rfl)⟩
  rw [if_neg (by rintro (h | h); exact h4 h; exact h6 h)] at h
  have hu1 : wrap64 ((s0_0.length : Int) - s0_1 - t2) = (s0_0.length : Int) - s0_1 - t2 := by unfold wrap64; omega
  have hu2 : IntKind.u64.wrap ((s0_0.length : Int) - s0_1 - t2) = (s0_0.length : Int) - s0_1 - t2 := by simp [IntKind.wrap, IntKind.bits, IntKind.signed]; omega
  have d6 : decide (IntKind.u64.wrap a1 < t1) = false := decide_eq_false h6
  by_cases h7 : (s0_0.length : Int) - s0_1 - t2 < t1
  · rw [if_pos h7] at h
    simp only [Option.some.injEq, Prod.mk.injEq] at h
    obtain ⟨rfl, e2, rfl, e4⟩ := h
    subst e2 e4
    have d7 : decide ((s0_0.length : Int) - s0_1 - t2 < t1) = true := decide_eq_true h7
    have hF := fun W h1 h2 => estreatref01_Reader_Fail.calls g s0_0 s0_1 0 s0_3 2 s0_1 2 s0_1 w0 W h1 h2 (by simp [estreatref01_Reader_Fail.f])
    by_cases hcs : c1 = s0_1.toNat
    case' pos => rw [if_pos hcs] at hKC; subst hcs
    case' neg => rw [if_neg hcs] at hKC
    all_goals
      go_enter Tryd.func65, Tryd.ntmps65
      go_wp2
      go_region_with (go_at_call 74; refine (hLK _ _ _ hKC (by omega)).mono ?_; rintro e w2 ⟨rfl, ⟨m, rfl⟩⟩)
      all_goals
        go_wp2_with (go_at_call 75; refine (hF _ (by repeat (first | exact hI0 | apply IsS66.drewN | apply IsS66.drew)) (by repeat (first | exact hB | apply pw_below_drewN | apply below_drew1))).mono ?_; rintro e w5 ⟨rfl, hI5, hB5, hK5⟩)
        repeat (go_quiet (fail); try go_wp2_with (go_at_call 75; refine (hF _ (by repeat (first | exact hI0 | apply IsS66.drewN | apply IsS66.drew)) (by repeat (first | exact hB | apply pw_below_drewN | apply below_drew1))).mono ?_; rintro e w5 ⟨rfl, hI5, hB5, hK5⟩))
        go_ret
        exact ⟨_, rfl, Kd.R_nil _ _ _ _ _, hI5, hB5, KeepBut.trans (by repeat (first | exact KeepBut.refl _ _ _ | apply keep_drewN | apply keep_drew)) hK5 (.inl rfl)⟩
  rw [if_neg h7] at h
  have d7 : decide ((s0_0.length : Int) - s0_1 - t2 < t1) = false := decide_eq_false h7
  have hu3 : IntKind.i64.wrap t1 = t1 := (IntKind.wrap_i64 _).trans (by omega)
  have hu4 : wrap64 t1 = t1 := by unfold wrap64; omega
  have hu5 : wrap64 (s0_1 + t2) = s0_1 + t2 := by unfold wrap64; omega
  have hT := fun W h1 h2 => estreatref01_Reader_Take.calls g s0_0 (s0_1 + t2) 0 s0_3 t1 r1 r2 r3 r4 w0 W h1 h2 h
  by_cases hcs : c1 = s0_1.toNat
  case' pos => rw [if_pos hcs] at hKC; subst hcs
  case' neg => rw [if_neg hcs] at hKC
  all_goals
    go_enter Tryd.func65, Tryd.ntmps65
    go_wp2
    go_region_with (go_at_call 74; refine (hLK _ _ _ hKC (by omega)).mono ?_; rintro e w2 ⟨rfl, ⟨m, rfl⟩⟩)
    all_goals
      go_wp2
      repeat (go_quiet (fail); try go_wp2_with (go_at_call 76; refine (hT _ ((by repeat (first | exact hI0 | apply IsS66.drewN | apply IsS66.drew) : IsS66 w0 _ g s0_0 s0_1 0 s0_3).set_1 _) (Below.setCell (p := ⟨g, 1, none⟩) (by repeat (first | exact hB | apply pw_below_drewN | apply below_drew1)) hg _)).mono ?_; rintro e w5 ⟨v5, rfl, hR5, hI5, hB5, hK5⟩))
      go_ret
      exact ⟨_, rfl, Kd.R_lower hR5 (by simp), hI5, hB5, KeepBut.trans (KeepBut.set_ (by repeat (first | exact KeepBut.refl _ _ _ | apply keep_drewN | apply keep_drew)) _ _) hK5 (.inl rfl)⟩

/-! ### estreatref13_Place: function 88 -/
def estreatref13_Place.l0 : Nat → List ByteArray → ByteArray → Int → Option (Int × Bool)
  | 0, _, _, _ => none
  | k + 1, x0, x1, x6 => if x6 < (x0.length : Int) then (if 0 ≤ x6 then (if (Op.bytesLess ((rdOf ByteArray.empty x0 x6).toList) x1.toList) = true then (estreatref13_Place.l0 k x0 x1 (wrap64 (x6 + 1))) else (some (x6, ((rdOf ByteArray.empty x0 x6).toList == x1.toList)))) else (none)) else (some (x6, false))
def estreatref13_Place.f (k : Nat) (l0 : List ByteArray) (a1 : ByteArray) : Option (Int × Bool) := estreatref13_Place.l0 k l0 a1 0
set_option maxHeartbeats 8000000 in
set_option maxRecDepth 100000 in
theorem estreatref13_Place.calls (k : Nat) (A0 : Option Addr) (c0 : Nat) (l0 : List ByteArray) (a1 : ByteArray) (r1 : Int) (r2 : Bool) (w : World) (hr0 : Kd.C Kd.string w A0 l0.length l0) (hc0 : l0.length ≤ c0) (h : estreatref13_Place.f k l0 a1 = some (r1, r2)) :
    Calls Tryd.prog 88 #[.slice A0 l0.length c0, .string a1] w fun e w' => e = .returned (.tuple #[.int .i64 r1, .bool r2]) ∧ Drawn0 w w' := by
  have HR0 := Aside0.mk hr0
  have HC0 := Aside0.mk hc0
  clear hr0 hc0
  have H : (estreatref13_Place.l0 k l0 a1 0) = some (r1, r2) := h
  clear h
  have H' := Aside0.mk H
  clear H
  go_enter Tryd.func88, Tryd.ntmps88
  go_wp2
  repeat (go_quiet (fail); try go_wp2)
  go_loopg [6] k (fun kq v6 w' => ∃ (x6_1 : Int), v6 = .int .i64 x6_1 ∧ Aside0 (estreatref13_Place.l0 kq l0 a1 x6_1 = some (r1, r2)) ∧ Aside0 (kq ≤ k) ∧ Drawn0 w w')
  case atStart => exact ⟨(0), (by first | rfl | (simp; done) | (simp [*]; done)), H', ⟨Nat.le_refl _⟩, by repeat (first | exact Drawn0.refl _ | apply Drawn0.step)⟩
  case round =>
    clear H'
    try clear p2
    obtain ⟨x6_1, rfl, HA, HK1, ⟨m1, rfl⟩⟩ := hrel
    cases gk with
    | zero => exact absurd HA.out (by simp [estreatref13_Place.l0])
    | succ k1 =>
      have H := HA.out
      clear HA
      simp only [estreatref13_Place.l0] at H
      by_cases c3 : x6_1 < (l0.length : Int)
      · rw [if_pos c3] at H
        have c3b0 : decide (x6_1 < (l0.length : Int)) = true := decide_eq_true c3
        clear c3
        by_cases c4 : 0 ≤ x6_1
        · rw [if_pos c4] at H
          have c4b0 : decide (0 ≤ x6_1) = true := decide_eq_true c4
          clear c4
          by_cases c5 : (Op.bytesLess ((rdOf ByteArray.empty l0 x6_1).toList) a1.toList) = true
          · rw [if_pos c5] at H
            have c5b0 : (Op.bytesLess ((rdOf ByteArray.empty l0 x6_1).toList) a1.toList) = true := c5
            clear c5
            have H' := Aside0.mk H
            clear H
            have p338 : 0 ≤ (x6_1 : Int) := of_decide_eq_true (by first | (with_reducible assumption) | assumption)
            have q338 : x6_1 < (l0.length : Int) := of_decide_eq_true (by first | (with_reducible assumption) | assumption)
            obtain ⟨ad338, e338, hx338_0⟩ := Kd.at_string HR0.out x6_1 p338 q338
            cases e338
            replace p338 := eq_true p338
            replace q338 := eq_true q338
            go_wp2
            repeat (go_quiet (fail); try go_wp2)
            go_roundg k1
            case measure => have := HK1.out; omega
            case rel => exact ⟨(wrap64 (x6_1 + 1)), (by first | rfl | (simp; done) | (simp [*]; done)), H', ⟨by have := HK1.out; omega⟩, by repeat (first | exact Drawn0.refl _ | apply Drawn0.step)⟩
          · rw [if_neg c5] at H
            have c5b0 : (Op.bytesLess ((rdOf ByteArray.empty l0 x6_1).toList) a1.toList) = false := by simpa using c5
            clear c5
            simp only [Option.some.injEq, Prod.mk.injEq] at H
            obtain ⟨rfl, rfl⟩ := H
            have p338 : 0 ≤ (x6_1 : Int) := of_decide_eq_true (by first | (with_reducible assumption) | assumption)
            have q338 : x6_1 < (l0.length : Int) := of_decide_eq_true (by first | (with_reducible assumption) | assumption)
            obtain ⟨ad338, e338, hx338_0⟩ := Kd.at_string HR0.out x6_1 p338 q338
            cases e338
            replace p338 := eq_true p338
            replace q338 := eq_true q338
            have p339 : 0 ≤ (x6_1 : Int) := of_decide_eq_true (by first | (with_reducible assumption) | assumption)
            have q339 : x6_1 < (l0.length : Int) := of_decide_eq_true (by first | (with_reducible assumption) | assumption)
            obtain ⟨ad339, e339, hx339_0⟩ := Kd.at_string HR0.out x6_1 p339 q339
            obtain rfl : ad338 = ad339 := (by injection e339)
            replace p339 := eq_true p339
            replace q339 := eq_true q339
            go_wp2
            repeat (go_quiet (fail); try go_wp2)
            go_ret2
            exact ⟨by first | rfl | (simp; done) | (simp [*]; done), by repeat (first | exact Drawn0.refl _ | apply Drawn0.step)⟩
        · rw [if_neg c4] at H
          exact absurd H (by simp)
      · rw [if_neg c3] at H
        have c3b0 : decide (x6_1 < (l0.length : Int)) = false := decide_eq_false c3
        clear c3
        simp only [Option.some.injEq, Prod.mk.injEq] at H
        obtain ⟨rfl, rfl⟩ := H
        go_wp2
        repeat (go_quiet (fail); try go_wp2)
        go_ret2
        exact ⟨by first | rfl | (simp; done) | (simp [*]; done), by repeat (first | exact Drawn0.refl _ | apply Drawn0.step)⟩

end Go.Proofs.YtieddojplhmhgaaDoor.PTextsGets
