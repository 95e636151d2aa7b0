/- What estreatref07.Read computes (written by a program of this session, out of the translation), and what that is: the marks that bytes show. -/
import Derived.Test.YtbjnfephigcdkaaSetPlays
namespace Go.Proofs.Ytbjnfephigcdkaa.Bits
open Go.RowKit Go.Proofs.YtbjnfephigcdkaaW.PrintWords Go.Proofs.YtbjnfephigcdkaaW.PrintLast Go.Proofs.YtbjnfephigcdkaaW.PrintMore Go.Proofs.Ytbjnfephigcdkaa.PBitmapPlays
attribute [local go_sem] max2_int min2_int max_two min_two max_three min_three max_four min_four
set_option linter.unusedVariables false
set_option linter.unusedSimpArgs false
theorem info4 : (Try.prog.info? 4).map (fun i => (i.zero, i.size, i.bytes)) = some (some (.bool false), 1, 1) := by kernel_rfl
/-! ### estreatref07_Read: function 39 -/
mutual
def estreatref07_Read.j0 : Nat → List Int → Int → Bool → Option (List Bool × Int)
  | 0, _, _, _ => none
  | k + 1, x0, x1, x17 => if x17 = true then (some (([] : List Bool), 1)) else (if (wrap64 (8 * (wrap64 (Int.tdiv x1 8)))) < x1 then (estreatref07_Read.j1 k x0 x1 (wrap64 ((wrap64 (Int.tdiv x1 8)) + 1))) else (estreatref07_Read.j1 k x0 x1 (wrap64 (Int.tdiv x1 8))))
def estreatref07_Read.j1 : Nat → List Int → Int → Int → Option (List Bool × Int)
  | 0, _, _, _ => none
  | k + 1, x0, x1, x6 => if (x0.length : Int) < x6 then (some (([] : List Bool), 2)) else (if (x0.length : Int) > x6 then (some (([] : List Bool), 3)) else (estreatref07_Read.l0 k x0 x1 ([] : List Bool) 0))
def estreatref07_Read.l0 : Nat → List Int → Int → List Bool → Int → Option (List Bool × Int)
  | 0, _, _, _, _ => none
  | k + 1, x0, x1, x7, x8 => if x8 < (x0.length : Int) then (if 0 ≤ x8 then (estreatref07_Read.l1 k x0 x1 x7 x8 (rd x0 x8) 0) else (none)) else (estreatref07_Read.l2 k x1 x7 x1)
def estreatref07_Read.l1 : Nat → List Int → Int → List Bool → Int → Int → Int → Option (List Bool × Int)
  | 0, _, _, _, _, _, _ => none
  | k + 1, x0, x1, x7, x8, x9, x10 => if x10 < 8 then (if x7.length < 140737488355328 then (estreatref07_Read.l1 k x0 x1 (x7 ++ [((Int.tmod x9 2) == 1)]) x8 ((Int.tdiv x9 2) % 256) (wrap64 (x10 + 1))) else (none)) else (estreatref07_Read.l0 k x0 x1 x7 (wrap64 (x8 + 1)))
def estreatref07_Read.l2 : Nat → Int → List Bool → Int → Option (List Bool × Int)
  | 0, _, _, _ => none
  | k + 1, x1, x7, x11 => if x11 < (x7.length : Int) then (if 0 ≤ x11 then (if rdOf false x7 x11 = true then (some (([] : List Bool), 4)) else (estreatref07_Read.l2 k x1 x7 (wrap64 (x11 + 1)))) else (none)) else (if 0 ≤ x1 then (if x1 ≤ (x7.length : Int) then (some ((x7.take (x1 : Int).toNat), 0)) else (none)) else (none))
end
def estreatref07_Read.f (k : Nat) (l0 : List Int) (a1 : Int) : Option (List Bool × Int) := if a1 < 0 then (estreatref07_Read.j0 k l0 a1 true) else (estreatref07_Read.j0 k l0 a1 (decide (a1 > 65536)))
theorem estreatref07_Read.mono_l : ∀ k, (∀ y0 y1 y2, LeO (estreatref07_Read.j0 k y0 y1 y2) (estreatref07_Read.j0 (k + 1) y0 y1 y2)) ∧ (∀ y0 y1 y2, LeO (estreatref07_Read.j1 k y0 y1 y2) (estreatref07_Read.j1 (k + 1) y0 y1 y2)) ∧ (∀ y0 y1 y2 y3, LeO (estreatref07_Read.l0 k y0 y1 y2 y3) (estreatref07_Read.l0 (k + 1) y0 y1 y2 y3)) ∧ (∀ y0 y1 y2 y3 y4 y5, LeO (estreatref07_Read.l1 k y0 y1 y2 y3 y4 y5) (estreatref07_Read.l1 (k + 1) y0 y1 y2 y3 y4 y5)) ∧ (∀ y0 y1 y2, LeO (estreatref07_Read.l2 k y0 y1 y2) (estreatref07_Read.l2 (k + 1) y0 y1 y2))
  | 0 => ⟨fun _ _ _ r h => by simp [estreatref07_Read.j0] at h, fun _ _ _ r h => by simp [estreatref07_Read.j1] at h, fun _ _ _ _ r h => by simp [estreatref07_Read.l0] at h, fun _ _ _ _ _ _ r h => by simp [estreatref07_Read.l1] at h, fun _ _ _ r h => by simp [estreatref07_Read.l2] at h⟩
  | k + 1 => by
    obtain ⟨ih0, ih1, ih2, ih3, ih4⟩ := estreatref07_Read.mono_l k
    refine ⟨?_, ?_, ?_, ?_, ?_⟩
    · intro y0 y1 y2
      unfold estreatref07_Read.j0
      repeat' first
      | (with_reducible exact ih0 _ _ _)
      | (with_reducible exact ih1 _ _ _)
      | (with_reducible exact ih2 _ _ _ _)
      | (with_reducible exact ih3 _ _ _ _ _ _)
      | (with_reducible exact ih4 _ _ _)
      | (with_reducible exact LeO.refl _)
      | (with_reducible exact LeO.none _)
      | (with_reducible refine LeO.ite ?_ ?_)
      | (with_reducible refine LeO.bind ?_ (fun _ => ?_))
      | exact ih0 _ _ _
      | exact ih1 _ _ _
      | exact ih2 _ _ _ _
      | exact ih3 _ _ _ _ _ _
      | exact ih4 _ _ _
      | exact LeO.none _
      | refine LeO.ite ?_ ?_
      | refine LeO.bind ?_ (fun _ => ?_)
    · intro y0 y1 y2
      unfold estreatref07_Read.j1
      repeat' first
      | (with_reducible exact ih0 _ _ _)
      | (with_reducible exact ih1 _ _ _)
      | (with_reducible exact ih2 _ _ _ _)
      | (with_reducible exact ih3 _ _ _ _ _ _)
      | (with_reducible exact ih4 _ _ _)
      | (with_reducible exact LeO.refl _)
      | (with_reducible exact LeO.none _)
      | (with_reducible refine LeO.ite ?_ ?_)
      | (with_reducible refine LeO.bind ?_ (fun _ => ?_))
      | exact ih0 _ _ _
      | exact ih1 _ _ _
      | exact ih2 _ _ _ _
      | exact ih3 _ _ _ _ _ _
      | exact ih4 _ _ _
      | exact LeO.none _
      | refine LeO.ite ?_ ?_
      | refine LeO.bind ?_ (fun _ => ?_)
    · intro y0 y1 y2 y3
      unfold estreatref07_Read.l0
      repeat' first
      | (with_reducible exact ih0 _ _ _)
      | (with_reducible exact ih1 _ _ _)
      | (with_reducible exact ih2 _ _ _ _)
      | (with_reducible exact ih3 _ _ _ _ _ _)
      | (with_reducible exact ih4 _ _ _)
      | (with_reducible exact LeO.refl _)
      | (with_reducible exact LeO.none _)
      | (with_reducible refine LeO.ite ?_ ?_)
      | (with_reducible refine LeO.bind ?_ (fun _ => ?_))
      | exact ih0 _ _ _
      | exact ih1 _ _ _
      | exact ih2 _ _ _ _
      | exact ih3 _ _ _ _ _ _
      | exact ih4 _ _ _
      | exact LeO.none _
      | refine LeO.ite ?_ ?_
      | refine LeO.bind ?_ (fun _ => ?_)
    · intro y0 y1 y2 y3 y4 y5
      unfold estreatref07_Read.l1
      repeat' first
      | (with_reducible exact ih0 _ _ _)
      | (with_reducible exact ih1 _ _ _)
      | (with_reducible exact ih2 _ _ _ _)
      | (with_reducible exact ih3 _ _ _ _ _ _)
      | (with_reducible exact ih4 _ _ _)
      | (with_reducible exact LeO.refl _)
      | (with_reducible exact LeO.none _)
      | (with_reducible refine LeO.ite ?_ ?_)
      | (with_reducible refine LeO.bind ?_ (fun _ => ?_))
      | exact ih0 _ _ _
      | exact ih1 _ _ _
      | exact ih2 _ _ _ _
      | exact ih3 _ _ _ _ _ _
      | exact ih4 _ _ _
      | exact LeO.none _
      | refine LeO.ite ?_ ?_
      | refine LeO.bind ?_ (fun _ => ?_)
    · intro y0 y1 y2
      unfold estreatref07_Read.l2
      repeat' first
      | (with_reducible exact ih0 _ _ _)
      | (with_reducible exact ih1 _ _ _)
      | (with_reducible exact ih2 _ _ _ _)
      | (with_reducible exact ih3 _ _ _ _ _ _)
      | (with_reducible exact ih4 _ _ _)
      | (with_reducible exact LeO.refl _)
      | (with_reducible exact LeO.none _)
      | (with_reducible refine LeO.ite ?_ ?_)
      | (with_reducible refine LeO.bind ?_ (fun _ => ?_))
      | exact ih0 _ _ _
      | exact ih1 _ _ _
      | exact ih2 _ _ _ _
      | exact ih3 _ _ _ _ _ _
      | exact ih4 _ _ _
      | exact LeO.none _
      | refine LeO.ite ?_ ?_
      | refine LeO.bind ?_ (fun _ => ?_)
theorem estreatref07_Read.mono : ∀ a0 a1 k, LeO (estreatref07_Read.f k a0 a1) (estreatref07_Read.f (k + 1) a0 a1) := by
  intro a0 a1 k
  obtain ⟨ih0, ih1, ih2, ih3, ih4⟩ := estreatref07_Read.mono_l k
  unfold estreatref07_Read.f
  repeat' first
      | (with_reducible exact ih0 _ _ _)
      | (with_reducible exact ih1 _ _ _)
      | (with_reducible exact ih2 _ _ _ _)
      | (with_reducible exact ih3 _ _ _ _ _ _)
      | (with_reducible exact ih4 _ _ _)
      | (with_reducible exact LeO.refl _)
      | (with_reducible exact LeO.none _)
      | (with_reducible refine LeO.ite ?_ ?_)
      | (with_reducible refine LeO.bind ?_ (fun _ => ?_))
      | exact ih0 _ _ _
      | exact ih1 _ _ _
      | exact ih2 _ _ _ _
      | exact ih3 _ _ _ _ _ _
      | exact ih4 _ _ _
      | exact LeO.none _
      | refine LeO.ite ?_ ?_
      | refine LeO.bind ?_ (fun _ => ?_)
set_option maxHeartbeats 8000000 in
set_option maxRecDepth 100000 in
theorem estreatref07_Read.calls (k : Nat) (A0 : Option Addr) (c0 : Nat) (l0 : List Int) (a1 : Int) (r1 : List Bool) (r2 : Int) (w : World) (hr0 : Kd.C (Kd.int .u8) w A0 l0.length l0) (hc0 : l0.length ≤ c0) (h : estreatref07_Read.f k l0 a1 = some (r1, r2)) :
    Calls Try.prog 39 #[.slice A0 l0.length c0, .int .i64 a1] w fun e w' => ∃ v0_ : Value, e = .returned (.tuple #[v0_, .int .i64 r2]) ∧ Kd.R Kd.bool 4 w' w.heap.size (fun _ => True) v0_ r1 ∧ Below w.heap.size w w' := by
  have HR0 := Aside0.mk hr0
  have HC0 := Aside0.mk hc0
  clear hr0 hc0
  have HB := Aside0.mk (Below.refl w.heap.size w)
  have H : (if a1 < 0 then (estreatref07_Read.j0 k l0 a1 true) else (estreatref07_Read.j0 k l0 a1 (decide (a1 > 65536)))) = some (r1, r2) := h
  clear h
  have HC3 := Aside0.mk H
  clear H
  go_enter Try.func39, Try.ntmps39
  go_upto_region 1 with (fail)
  go_cut [17] (fun v17 wc => ∃ (kq : Nat) (x17_2 : Bool), v17 = .bool x17_2 ∧ Aside0 (estreatref07_Read.j0 kq l0 a1 x17_2 = some (r1, r2)) ∧ Aside0 (kq ≤ k) ∧ Aside0 (Below w.heap.size w wc))
  case first =>
    have H := HC3.out
    clear HC3
    by_cases c4 : a1 < 0
    · rw [if_pos c4] at H
      have c4b0 : decide (a1 < 0) = true := decide_eq_true c4
      clear c4
      (first | rw [c4b0] | (simp only [i64_w, i32_w]; rw [c4b0]) | skip)
      have H' := Aside0.mk H
      clear H
      go_wp2
      go_meet
      case rel => exact ⟨_, (true), (by first | rfl | (simp; done) | (simp [*]; done)), H', ⟨by first | omega | exact Nat.le_refl _⟩, ⟨by repeat (first | (with_reducible first | exact HB.out | apply below_alloc | apply pw_below_drewN | apply below_drew1) | exact HB.out)⟩⟩
    · rw [if_neg c4] at H
      have c4b0 : decide (a1 < 0) = false := decide_eq_false c4
      clear c4
      (first | rw [c4b0] | (simp only [i64_w, i32_w]; rw [c4b0]) | skip)
      have H' := Aside0.mk H
      clear H
      go_wp2
      go_meet
      case rel => exact ⟨_, (decide (a1 > 65536)), (by first | rfl | (simp; done) | (simp [*]; done)), H', ⟨by first | omega | exact Nat.le_refl _⟩, ⟨by repeat (first | (with_reducible first | exact HB.out | apply below_alloc | apply pw_below_drewN | apply below_drew1) | exact HB.out)⟩⟩
  case rest =>
    clear HC3
    try clear p2
    try clear c3
    try clear c4
    try clear c4b0
    obtain ⟨kq, x17_2, rfl, HA, HJ2, HB⟩ := hcut
    cases kq with
    | zero => exact absurd HA.out (by simp [estreatref07_Read.j0])
    | succ kj2 =>
      have H := HA.out
      clear HA
      simp only [estreatref07_Read.j0] at H
      by_cases c5 : x17_2 = true
      · subst c5
        have H1 : (some (([] : List Bool), 1)) = some (r1, r2) := by rw [if_pos rfl] at H; exact H
        clear H
        have H := H1
        clear H1
        simp only [Option.some.injEq, Prod.mk.injEq] at H
        obtain ⟨rfl, rfl⟩ := H
        go_wp2
        go_ret2
        exact ⟨_, by first | rfl | (simp [errW_none, errW_some] <;> rfl) | (simp [*, errW_none, errW_some] <;> rfl), by first | exact Kd.R_nil _ _ _ _ _ | exact Kd.N_nil _ _ _ _ _ | exact Kd.V_nil _ _ _ _ _ | exact Kd.Q_nil _ _ _ _ _ | exact Kd.S_nil _ _ _ _ _, by repeat (first | (with_reducible first | exact HB.out | apply below_alloc | apply pw_below_drewN | apply below_drew1) | exact HB.out)⟩
      · replace c5 := Bool.eq_false_iff.mpr c5
        subst c5
        have H1 : (if (wrap64 (8 * (wrap64 (Int.tdiv a1 8)))) < a1 then (estreatref07_Read.j1 kj2 l0 a1 (wrap64 ((wrap64 (Int.tdiv a1 8)) + 1))) else (estreatref07_Read.j1 kj2 l0 a1 (wrap64 (Int.tdiv a1 8)))) = some (r1, r2) := by rw [if_neg (show ¬ (false = true) by decide)] at H; exact H
        clear H
        have H := H1
        clear H1
        have HC6 := Aside0.mk H
        clear H
        go_upto_if 23 with (fail)
        go_cut [6] (fun v6 wc => ∃ (kq : Nat) (x6_5 : Int), v6 = .int .i64 x6_5 ∧ Aside0 (estreatref07_Read.j1 kq l0 a1 x6_5 = some (r1, r2)) ∧ Aside0 (kq ≤ kj2) ∧ Aside0 (Below w.heap.size w wc))
        case first =>
          have H := HC6.out
          clear HC6
          by_cases c7 : (wrap64 (8 * (wrap64 (Int.tdiv a1 8)))) < a1
          · rw [if_pos c7] at H
            have c7b0 : decide ((wrap64 (8 * (wrap64 (Int.tdiv a1 8)))) < a1) = true := decide_eq_true c7
            clear c7
            (first | rw [c7b0] | (simp only [i64_w, i32_w]; rw [c7b0]) | skip)
            have H' := Aside0.mk H
            clear H
            go_wp2
            go_meet
            case rel => exact ⟨_, (wrap64 ((wrap64 (Int.tdiv a1 8)) + 1)), (by first | rfl | (simp; done) | (simp [*]; done)), H', ⟨by have := HJ2.out; first | omega | exact Nat.le_refl _⟩, ⟨by repeat (first | (with_reducible first | exact HB.out | apply below_alloc | apply pw_below_drewN | apply below_drew1) | exact HB.out)⟩⟩
          · rw [if_neg c7] at H
            have c7b0 : decide ((wrap64 (8 * (wrap64 (Int.tdiv a1 8)))) < a1) = false := decide_eq_false c7
            clear c7
            (first | rw [c7b0] | (simp only [i64_w, i32_w]; rw [c7b0]) | skip)
            have H' := Aside0.mk H
            clear H
            go_wp2
            go_meet
            case rel => exact ⟨_, (wrap64 (Int.tdiv a1 8)), (by first | rfl | (simp; done) | (simp [*]; done)), H', ⟨by have := HJ2.out; first | omega | exact Nat.le_refl _⟩, ⟨by repeat (first | (with_reducible first | exact HB.out | apply below_alloc | apply pw_below_drewN | apply below_drew1) | exact HB.out)⟩⟩
        case rest =>
          clear HC6
          try clear p2
          try clear c3
          try clear c4
          try clear c4b0
          try clear c5
          try clear p6
          try clear c7
          try clear c7b0
          try clear p2
          obtain ⟨kq, x6_5, rfl, HA, HJ5, HB⟩ := hcut
          cases kq with
          | zero => exact absurd HA.out (by simp [estreatref07_Read.j1])
          | succ kj5 =>
            have H := HA.out
            clear HA
            simp only [estreatref07_Read.j1] at H
            by_cases c8 : (l0.length : Int) < x6_5
            · rw [if_pos c8] at H
              have c8b0 : decide ((l0.length : Int) < x6_5) = true := decide_eq_true c8
              clear c8
              simp only [Option.some.injEq, Prod.mk.injEq] at H
              obtain ⟨rfl, rfl⟩ := H
              go_wp2
              go_ret2
              exact ⟨_, by first | rfl | (simp [errW_none, errW_some] <;> rfl) | (simp [*, errW_none, errW_some] <;> rfl), by first | exact Kd.R_nil _ _ _ _ _ | exact Kd.N_nil _ _ _ _ _ | exact Kd.V_nil _ _ _ _ _ | exact Kd.Q_nil _ _ _ _ _ | exact Kd.S_nil _ _ _ _ _, by repeat (first | (with_reducible first | exact HB.out | apply below_alloc | apply pw_below_drewN | apply below_drew1) | exact HB.out)⟩
            · rw [if_neg c8] at H
              have c8b0 : decide ((l0.length : Int) < x6_5) = false := decide_eq_false c8
              clear c8
              by_cases c9 : (l0.length : Int) > x6_5
              · rw [if_pos c9] at H
                have c9b0 : decide (x6_5 < (l0.length : Int)) = true := decide_eq_true c9
                clear c9
                simp only [Option.some.injEq, Prod.mk.injEq] at H
                obtain ⟨rfl, rfl⟩ := H
                go_wp2
                go_ret2
                exact ⟨_, by first | rfl | (simp [errW_none, errW_some] <;> rfl) | (simp [*, errW_none, errW_some] <;> rfl), by first | exact Kd.R_nil _ _ _ _ _ | exact Kd.N_nil _ _ _ _ _ | exact Kd.V_nil _ _ _ _ _ | exact Kd.Q_nil _ _ _ _ _ | exact Kd.S_nil _ _ _ _ _, by repeat (first | (with_reducible first | exact HB.out | apply below_alloc | apply pw_below_drewN | apply below_drew1) | exact HB.out)⟩
              · rw [if_neg c9] at H
                have c9b0 : decide (x6_5 < (l0.length : Int)) = false := decide_eq_false c9
                clear c9
                have H' := Aside0.mk H
                clear H
                go_wp2
                go_loopg [7, 8] kj5 (fun kq v7 v8 w' => ∃ (x7_3 : List Bool) (x8_3 : Int), v8 = .int .i64 x8_3 ∧ Aside0 (estreatref07_Read.l0 kq l0 a1 x7_3 x8_3 = some (r1, r2)) ∧ Aside0 (kq ≤ kj5) ∧ Aside0 (Kd.R Kd.bool 4 w' w.heap.size (fun _ => True) v7 x7_3) ∧ Aside0 (Below w.heap.size w w'))
                case atStart => exact ⟨(([] : List Bool)), (0), (by first | rfl | (simp; done) | (simp [*]; done)), H', ⟨Nat.le_refl _⟩, ⟨by first | exact Kd.R_nil _ _ _ _ _ | exact Kd.N_nil _ _ _ _ _ | exact Kd.V_nil _ _ _ _ _ | exact Kd.Q_nil _ _ _ _ _ | exact Kd.S_nil _ _ _ _ _⟩, ⟨by repeat (first | (with_reducible first | exact HB.out | apply below_alloc | apply pw_below_drewN | apply below_drew1) | exact HB.out)⟩⟩
                case round =>
                  clear H'
                  try clear p2
                  try clear c3
                  try clear c4
                  try clear c4b0
                  try clear c5
                  try clear p6
                  try clear c7
                  try clear c7b0
                  try clear c8
                  try clear c8b0
                  try clear c9
                  try clear c9b0
                  try clear p2
                  try clear p6
                  obtain ⟨x7_3, x8_3, rfl, HA, HK3, HO_7, HB⟩ := hrel
                  cases gk with
                  | zero => exact absurd HA.out (by simp [estreatref07_Read.l0])
                  | succ k3 =>
                    have H := HA.out
                    clear HA
                    simp only [estreatref07_Read.l0] at H
                    by_cases c10 : x8_3 < (l0.length : Int)
                    · rw [if_pos c10] at H
                      have c10b0 : decide (x8_3 < (l0.length : Int)) = true := decide_eq_true c10
                      clear c10
                      by_cases c11 : 0 ≤ x8_3
                      · rw [if_pos c11] at H
                        have c11b0 : decide (0 ≤ x8_3) = true := decide_eq_true c11
                        clear c11
                        have H' := Aside0.mk H
                        clear H
                        have p103 : 0 ≤ (x8_3 : Int) := of_decide_eq_true (by first | (with_reducible assumption) | assumption)
                        have q103 : x8_3 < (l0.length : Int) := of_decide_eq_true (by first | (with_reducible assumption) | assumption)
                        obtain ⟨ad103, e103, hx103_0⟩ := Kd.at_int HR0.out x8_3 p103 q103
                        cases e103
                        replace hx103_0 := (HB.out.cell (World.block_lt_of_cell? w _ hx103_0)).trans hx103_0
                        replace p103 := eq_true p103
                        replace q103 := eq_true q103
                        go_wp2
                        go_loopg [7, 9, 10] k3 (fun kq v7 v9 v10 w' => ∃ (x7_4 : List Bool) (x9_4 : Int) (x10_4 : Int), v9 = .int .u8 x9_4 ∧ v10 = .int .i64 x10_4 ∧ Aside0 (estreatref07_Read.l1 kq l0 a1 x7_4 x8_3 x9_4 x10_4 = some (r1, r2)) ∧ Aside0 (kq ≤ k3) ∧ Aside0 (Kd.R Kd.bool 4 w' w.heap.size (fun _ => True) v7 x7_4) ∧ Aside0 (Below w.heap.size w w'))
                        case atStart => exact ⟨(x7_3), (rd l0 x8_3), (0), (by first | rfl | (simp; done) | (simp [*]; done)), (by first | rfl | (simp; done) | (simp [*]; done)), H', ⟨Nat.le_refl _⟩, ⟨by (with_reducible repeat (first | apply Kd.R_alloc | apply Kd.R_drewN | apply Kd.R_drew)); exact HO_7.out⟩, ⟨by repeat (first | (with_reducible first | exact HB.out | apply below_alloc | apply pw_below_drewN | apply below_drew1) | exact HB.out)⟩⟩
                        case round =>
                          clear H'
                          try clear c1
                          try clear p1
                          try clear q1
                          try clear hx1
                          try clear p2
                          try clear c3
                          try clear c4
                          try clear c4b0
                          try clear c5
                          try clear p6
                          try clear c7
                          try clear c7b0
                          try clear c8
                          try clear c8b0
                          try clear c9
                          try clear c9b0
                          try clear c10
                          try clear c10b0
                          try clear p10
                          try clear q10
                          try clear hx10
                          try clear c11
                          try clear c11b0
                          try clear hx103_0
                          try clear p103
                          try clear p2
                          try clear p6
                          try clear q103
                          obtain ⟨x7_4, x9_4, x10_4, rfl, rfl, HA, HK4, HO_7, HB⟩ := hrel
                          cases gk with
                          | zero => exact absurd HA.out (by simp [estreatref07_Read.l1])
                          | succ k4 =>
                            have H := HA.out
                            clear HA
                            simp only [estreatref07_Read.l1] at H
                            by_cases c12 : x10_4 < 8
                            · rw [if_pos c12] at H
                              have c12b0 : decide (x10_4 < 8) = true := decide_eq_true c12
                              clear c12
                              by_cases c13 : x7_4.length < 140737488355328
                              · rw [if_pos c13] at H
                                have LMc13 := Aside0.mk c13
                                clear c13
                                obtain ⟨y104, hy104⟩ : ∃ y_ : List Bool, y_ = (x7_4 ++ [((Int.tmod x9_4 2) == 1)]) := ⟨_, rfl⟩
                                replace H : (estreatref07_Read.l1 k4 l0 a1 y104 x8_3 ((Int.tdiv x9_4 2) % 256) (wrap64 (x10_4 + 1))) = some (r1, r2) := by first | (rw [hy104]; with_reducible exact H) | (have H2_ := (Option.bind_some _ _).symm.trans H; rw [hy104]; with_reducible exact H2_) | (have H2_ := (Option.bind_some _ _).symm.trans H; with_reducible exact H2_) | with_reducible exact H | (rw [hy104]; exact H) | exact H
                                have Ny104 := Aside0.mk hy104
                                clear hy104
                                have H' := Aside0.mk H
                                clear H
                                go_wp2_with (first | ((with_reducible refine gate_builtin (b := .append) (xs := #[.tmp 48, .tmp 52]) rfl ?_); at_builtin; refine Kd.R_append Kd.bool (w0 := w) w.heap.size rfl (.tmp 48) (.tmp 52) 48 4 (.bool false) 1 rfl Try.underlying48 info4 rfl (by decide) (by omega) u7 x7_4 ((Int.tmod x9_4 2) == 1) [.bool ((Int.tmod x9_4 2) == 1)] (fun _ => True) (fun _ => False) rfl rfl ?aP (fun _ hk => hk.elim) ?aF ?aO ?aB ?aS ?aL ?_; (case aP => exact rfl); (case aB => exact (by repeat (first | (with_reducible first | exact HB.out | apply below_alloc | apply pw_below_drewN | apply below_drew1) | exact HB.out))); (case aF => exact (fun _ _ => trivial)); (case aO => exact (by (with_reducible repeat (first | apply Kd.R_alloc | apply Kd.R_drewN | apply Kd.R_drew)); exact HO_7.out)); (case aS => exact (below_size (by repeat (first | (with_reducible first | exact HB.out | apply below_alloc | apply pw_below_drewN | apply below_drew1) | exact HB.out)))); (case aL => have := LMc13.out; omega); intro v105 w14 ho hb hg hat; rw [← Ny104.out] at ho; have n0_ := Aside0.mk (hb); have n1_ := Aside0.mk (ho); clear HB; clear HO_7; have HB := n0_; have HO106 := n1_; clear n0_ n1_; clear ho hb hg hat))
                                go_roundg k4
                                case measure => have := HJ2.out; have := HJ5.out; have := HK3.out; have := HK4.out; omega
                                case rel => exact ⟨(y104), ((Int.tdiv x9_4 2) % 256), (wrap64 (x10_4 + 1)), (by first | rfl | (simp; done) | (simp [*]; done)), (by first | rfl | (simp; done) | (simp [*]; done)), H', ⟨by have := HJ2.out; have := HJ5.out; have := HK3.out; have := HK4.out; omega⟩, ⟨by (with_reducible repeat (first | apply Kd.R_alloc | apply Kd.R_drewN | apply Kd.R_drew)); exact HO106.out⟩, ⟨by repeat (first | (with_reducible first | exact HB.out | apply below_alloc | apply pw_below_drewN | apply below_drew1) | exact HB.out)⟩⟩
                              · rw [if_neg c13] at H
                                exact absurd H (by simp)
                            · rw [if_neg c12] at H
                              have c12b0 : decide (x10_4 < 8) = false := decide_eq_false c12
                              clear c12
                              have H' := Aside0.mk H
                              clear H
                              go_wp2
                              go_roundg k4
                              case measure => have := HJ2.out; have := HJ5.out; have := HK3.out; have := HK4.out; omega
                              case rel => exact ⟨(x7_4), (wrap64 (x8_3 + 1)), (by first | rfl | (simp; done) | (simp [*]; done)), H', ⟨by have := HJ2.out; have := HJ5.out; have := HK3.out; have := HK4.out; omega⟩, ⟨by (with_reducible repeat (first | apply Kd.R_alloc | apply Kd.R_drewN | apply Kd.R_drew)); exact HO_7.out⟩, ⟨by repeat (first | (with_reducible first | exact HB.out | apply below_alloc | apply pw_below_drewN | apply below_drew1) | exact HB.out)⟩⟩
                      · rw [if_neg c11] at H
                        exact absurd H (by simp)
                    · rw [if_neg c10] at H
                      have c10b0 : decide (x8_3 < (l0.length : Int)) = false := decide_eq_false c10
                      clear c10
                      have H' := Aside0.mk H
                      clear H
                      go_wp2
                      go_loopg [11] k3 (fun kq v11 w' => ∃ (x11_4 : Int), v11 = .int .i64 x11_4 ∧ Aside0 (estreatref07_Read.l2 kq a1 x7_3 x11_4 = some (r1, r2)) ∧ Aside0 (kq ≤ k3) ∧ Aside0 (Kd.R Kd.bool 4 w' w.heap.size (fun _ => True) u7 x7_3) ∧ Aside0 (Below w.heap.size w w'))
                      case atStart => exact ⟨(a1), (by first | rfl | (simp; done) | (simp [*]; done)), H', ⟨Nat.le_refl _⟩, ⟨by (with_reducible repeat (first | apply Kd.R_alloc | apply Kd.R_drewN | apply Kd.R_drew)); exact HO_7.out⟩, ⟨by repeat (first | (with_reducible first | exact HB.out | apply below_alloc | apply pw_below_drewN | apply below_drew1) | exact HB.out)⟩⟩
                      case round =>
                        clear H'
                        try clear c1
                        try clear p1
                        try clear q1
                        try clear hx1
                        try clear p2
                        try clear c3
                        try clear c4
                        try clear c4b0
                        try clear c5
                        try clear p6
                        try clear c7
                        try clear c7b0
                        try clear c8
                        try clear c8b0
                        try clear c9
                        try clear c9b0
                        try clear c10
                        try clear c10b0
                        try clear p10
                        try clear q10
                        try clear hx10
                        try clear c11
                        try clear c11b0
                        try clear c12
                        try clear c12b0
                        try clear c13
                        try clear hx103_0
                        try clear p1
                        try clear p10
                        try clear p103
                        try clear p2
                        try clear p6
                        try clear q1
                        try clear q10
                        try clear q103
                        obtain ⟨x11_4, rfl, HA, HK4, HO_7, HB⟩ := hrel
                        cases gk with
                        | zero => exact absurd HA.out (by simp [estreatref07_Read.l2])
                        | succ k4 =>
                          have H := HA.out
                          clear HA
                          simp only [estreatref07_Read.l2] at H
                          by_cases c15 : x11_4 < (x7_3.length : Int)
                          · rw [if_pos c15] at H
                            have c15b0 : decide (x11_4 < (x7_3.length : Int)) = true := decide_eq_true c15
                            clear c15
                            by_cases c16 : 0 ≤ x11_4
                            · rw [if_pos c16] at H
                              have c16b0 : decide (0 ≤ x11_4) = true := decide_eq_true c16
                              clear c16
                              obtain ⟨bq17, hbq17⟩ : ∃ b_ : Bool, b_ = (rdOf false x7_3 x11_4) := ⟨_, rfl⟩
                              replace H : (if bq17 = true then (some (([] : List Bool), 4)) else (estreatref07_Read.l2 k4 a1 x7_3 (wrap64 (x11_4 + 1)))) = some (r1, r2) := by rw [← hbq17] at H; exact H
                              have Nbq17 := Aside0.mk hbq17
                              clear hbq17
                              by_cases c18 : bq17 = true
                              · subst c18
                                have H1 : (some (([] : List Bool), 4)) = some (r1, r2) := by rw [if_pos rfl] at H; exact H
                                clear H
                                have H := H1
                                clear H1
                                simp only [Option.some.injEq, Prod.mk.injEq] at H
                                obtain ⟨rfl, rfl⟩ := H
                                obtain ⟨Ao19, co19, eo19⟩ := Kd.R_slice HO_7.out
                                subst eo19
                                have p107 : 0 ≤ (x11_4 : Int) := of_decide_eq_true (by first | (with_reducible assumption) | assumption)
                                have q107 : x11_4 < (x7_3.length : Int) := of_decide_eq_true (by first | (with_reducible assumption) | assumption)
                                obtain ⟨ad107, e107, hx107_0⟩ := Kd.at_bool (Kd.R_reads' HO_7.out).2.2 x11_4 p107 q107
                                (try rw [← Nbq17.out] at hx107_0)
                                cases e107
                                replace p107 := eq_true p107
                                replace q107 := eq_true q107
                                go_wp2
                                go_ret2
                                exact ⟨_, by first | rfl | (simp [errW_none, errW_some] <;> rfl) | (simp [*, errW_none, errW_some] <;> rfl), by first | exact Kd.R_nil _ _ _ _ _ | exact Kd.N_nil _ _ _ _ _ | exact Kd.V_nil _ _ _ _ _ | exact Kd.Q_nil _ _ _ _ _ | exact Kd.S_nil _ _ _ _ _, by repeat (first | (with_reducible first | exact HB.out | apply below_alloc | apply pw_below_drewN | apply below_drew1) | exact HB.out)⟩
                              · replace c18 := Bool.eq_false_iff.mpr c18
                                subst c18
                                have H1 : (estreatref07_Read.l2 k4 a1 x7_3 (wrap64 (x11_4 + 1))) = some (r1, r2) := by rw [if_neg (show ¬ (false = true) by decide)] at H; exact H
                                clear H
                                have H := H1
                                clear H1
                                have H' := Aside0.mk H
                                clear H
                                obtain ⟨Ao20, co20, eo20⟩ := Kd.R_slice HO_7.out
                                subst eo20
                                have p107 : 0 ≤ (x11_4 : Int) := of_decide_eq_true (by first | (with_reducible assumption) | assumption)
                                have q107 : x11_4 < (x7_3.length : Int) := of_decide_eq_true (by first | (with_reducible assumption) | assumption)
                                obtain ⟨ad107, e107, hx107_0⟩ := Kd.at_bool (Kd.R_reads' HO_7.out).2.2 x11_4 p107 q107
                                (try rw [← Nbq17.out] at hx107_0)
                                cases e107
                                replace p107 := eq_true p107
                                replace q107 := eq_true q107
                                go_wp2
                                go_roundg k4
                                case measure => have := HJ2.out; have := HJ5.out; have := HK3.out; have := HK4.out; omega
                                case rel => exact ⟨(wrap64 (x11_4 + 1)), (by first | rfl | (simp; done) | (simp [*]; done)), H', ⟨by have := HJ2.out; have := HJ5.out; have := HK3.out; have := HK4.out; omega⟩, ⟨by (with_reducible repeat (first | apply Kd.R_alloc | apply Kd.R_drewN | apply Kd.R_drew)); exact HO_7.out⟩, ⟨by repeat (first | (with_reducible first | exact HB.out | apply below_alloc | apply pw_below_drewN | apply below_drew1) | exact HB.out)⟩⟩
                            · rw [if_neg c16] at H
                              exact absurd H (by simp)
                          · rw [if_neg c15] at H
                            have c15b0 : decide (x11_4 < (x7_3.length : Int)) = false := decide_eq_false c15
                            clear c15
                            by_cases c21 : 0 ≤ a1
                            · rw [if_pos c21] at H
                              have c21b0 := eq_true c21
                              have c21b1 : decide (0 ≤ a1) = true := decide_eq_true c21
                              clear c21
                              by_cases c22 : a1 ≤ (x7_3.length : Int)
                              · rw [if_pos c22] at H
                                have c22b0 := eq_true c22
                                have c22b1 : decide (a1 ≤ (x7_3.length : Int)) = true := decide_eq_true c22
                                clear c22
                                obtain ⟨y108, hy108⟩ : ∃ y_ : List Bool, y_ = (x7_3.take (a1 : Int).toNat) := ⟨_, rfl⟩
                                replace H : (some (y108, 0)) = some (r1, r2) := by first | (rw [hy108]; with_reducible exact H) | (have H2_ := (Option.bind_some _ _).symm.trans H; rw [hy108]; with_reducible exact H2_) | (have H2_ := (Option.bind_some _ _).symm.trans H; with_reducible exact H2_) | with_reducible exact H | (rw [hy108]; exact H) | exact H
                                have Ny108 := Aside0.mk hy108
                                clear hy108
                                simp only [Option.some.injEq, Prod.mk.injEq] at H
                                obtain ⟨rfl, rfl⟩ := H
                                obtain ⟨Ao23, co23, eo23⟩ := Kd.R_slice HO_7.out
                                subst eo23
                                have q24 : (a1 : Int) ≤ ((x7_3.length : Int) : Int) := of_decide_eq_true (by first | (with_reducible assumption) | assumption)
                                obtain ⟨i024, hi024, _, hsz24, _⟩ := info_parts info4
                                have hcut24 := cut_to (P := Try.prog) 48 4 .i64 Try.underlying48 hi024 Ao23 x7_3.length co23 a1 (of_decide_eq_true (by first | (with_reducible assumption) | assumption)) q24 (Kd.R_reads' HO_7.out).2.1
                                have hr24 := Kd.R_take (m := (a1 : Int).toNat) HO_7.out (by omega)
                                have hy24 : y108.length = (a1 : Int).toNat := (by rw [Ny108.out, List.length_take]; omega)
                                rw [← Ny108.out] at hr24
                                rw [← hy24] at hr24 hcut24
                                clear hy24 hi024 hsz24 HO_7
                                have HO110 := Aside0.mk hr24
                                clear hr24
                                replace q24 := eq_true q24
                                go_wp2
                                go_ret2
                                exact ⟨_, by first | rfl | (simp [errW_none, errW_some] <;> rfl) | (simp [*, errW_none, errW_some] <;> rfl), by (with_reducible repeat (first | apply Kd.R_alloc | apply Kd.R_drewN | apply Kd.R_drew)); exact HO110.out, by repeat (first | (with_reducible first | exact HB.out | apply below_alloc | apply pw_below_drewN | apply below_drew1) | exact HB.out)⟩
                              · rw [if_neg c22] at H
                                exact absurd H (by simp)
                            · rw [if_neg c21] at H
                              exact absurd H (by simp)

/-! What it is. -/
theorem high_iff : ∀ (v : Fin 256) (r : Fin 8), (v.1 : Int) / 2 ^ r.1 ≠ 0 → ∃ q : Fin 8, r.1 ≤ q.1 ∧ ((v.1 : Int) / 2 ^ q.1 % 2 == 1) = true := by
  decide +kernel
theorem unp_len (l : List Int) (n : Nat) : (unp l n).length = n := by simp [unp]
theorem unp_succ (l : List Int) (n : Nat) : unp l (n + 1) = unp l n ++ [l.getD (n / 8) 0 / 2 ^ (n % 8) % 2 == 1] := by
  unfold unp
  rw [List.range_succ, List.map_append]
  rfl
theorem unp_take (l : List Int) (n m : Nat) (h : n ≤ m) : (unp l m).take n = unp l n := by
  unfold unp
  rw [← List.map_take, List.take_range, Nat.min_eq_left h]
theorem unp_at (l : List Int) (n j : Nat) (h : j < n) : (unp l n).getD j false = (l.getD (j / 8) 0 / 2 ^ (j % 8) % 2 == 1) := by
  simp [unp, List.getD, h]
theorem rRead_l2 (n : Int) (all : List Bool) (hl : all.length ≤ 70000) (h0 : 0 ≤ n) (hn : n ≤ all.length) : ∀ (d i : Nat), all.length = i + d → (∀ j, i ≤ j → j < all.length → all.getD j false = false) → Ev (fun k => estreatref07_Read.l2 k n all i) (all.take n.toNat, 0) := by
  intro d
  induction d with
  | zero =>
    intro i hi _
    refine Ev.step (fun k => ?_) (Ev.now _)
    simp only [estreatref07_Read.l2]
    rw [if_neg (by omega), if_pos h0, if_pos hn]
  | succ d ih =>
    intro i hi ha
    refine Ev.step (fun k => ?_) (ih (i + 1) (by omega) (fun j hj => ha j (by omega)))
    simp only [estreatref07_Read.l2]
    rw [if_pos (by omega), if_pos (by omega), rdOf_nat, ha i (Nat.le_refl _) (by omega), if_neg (by decide), w64 (by omega) (by omega)]
    rfl
theorem rRead_l2b (n : Int) (all : List Bool) (hl : all.length ≤ 70000) (j : Nat) (hj : j < all.length) (hb : all.getD j false = true) : ∀ (d i : Nat), j = i + d → Ev (fun k => estreatref07_Read.l2 k n all i) (([] : List Bool), 4) := by
  intro d
  induction d with
  | zero =>
    intro i hi
    obtain rfl : i = j := by omega
    refine Ev.step (fun k => ?_) (Ev.now _)
    simp only [estreatref07_Read.l2]
    rw [if_pos (by omega), if_pos (by omega), rdOf_nat, hb, if_pos rfl]
  | succ d ih =>
    intro i hi
    by_cases hbi : all.getD i false = true
    · refine Ev.step (fun k => ?_) (Ev.now _)
      simp only [estreatref07_Read.l2]
      rw [if_pos (by omega), if_pos (by omega), rdOf_nat, hbi, if_pos rfl]
    · refine Ev.step (fun k => ?_) (ih (i + 1) (by omega))
      simp only [estreatref07_Read.l2]
      rw [if_pos (by omega), if_pos (by omega), rdOf_nat, if_neg hbi, w64 (by omega) (by omega)]
      rfl
theorem rRead_l1 (l : List Int) (n : Int) (i : Nat) (R : List Bool × Int) (m : Nat) (hi : i < 10000) (hm : m < 256) (hv : l.getD i 0 = m) (H : Ev (fun k => estreatref07_Read.l0 k l n (unp l (8 * (i + 1))) ((i + 1 : Nat) : Int)) R) :
    ∀ (d q : Nat), 8 = q + d → Ev (fun k => estreatref07_Read.l1 k l n (unp l (8 * i + q)) i ((m / 2 ^ q : Nat) : Int) q) R := by
  intro d
  induction d with
  | zero =>
    intro q hq
    obtain rfl : q = 8 := by omega
    refine Ev.step (fun k => ?_) H
    simp only [estreatref07_Read.l1]
    rw [if_neg (by omega), w64 (by omega) (by omega)]
    rfl
  | succ d ih =>
    intro q hq
    have hn := ih (q + 1) (by omega)
    have hd : m / 2 ^ q ≤ m := Nat.div_le_self _ _
    have e3 : m / 2 ^ (q + 1) = m / 2 ^ q / 2 := by rw [Nat.pow_succ, Nat.div_div_eq_div_mul]
    have hu : unp l (8 * i + (q + 1)) = unp l (8 * i + q) ++ [((m / 2 ^ q : Nat) : Int) % 2 == 1] := by
      rw [show 8 * i + (q + 1) = (8 * i + q) + 1 from rfl, unp_succ, show (8 * i + q) / 8 = i from by omega, show (8 * i + q) % 8 = q from by omega, hv]
      simp
    rw [e3] at hn
    generalize m / 2 ^ q = p at *
    have e1 : Int.tmod (p : Int) 2 = (p : Int) % 2 := Int.tmod_eq_emod_of_nonneg (by omega)
    have e2 : Int.tdiv (p : Int) 2 = (p : Int) / 2 := Int.tdiv_eq_ediv_of_nonneg (by omega)
    have e4 : (p : Int) / 2 % 256 = ((p / 2 : Nat) : Int) := by omega
    rw [hu] at hn
    refine Ev.step (fun k => ?_) hn
    simp only [estreatref07_Read.l1]
    rw [if_pos (by omega), if_pos (by rw [unp_len]; omega), e1, e2, e4, w64 (by omega) (by omega)]
    rfl
theorem rRead_l0 (l : List Int) (n : Int) (R : List Bool × Int) (hl : l.length ≤ 8200) (hw : ∀ v ∈ l, 0 ≤ v ∧ v < 256) (H : Ev (fun k => estreatref07_Read.l2 k n (unp l (8 * l.length)) n) R) :
    ∀ (d i : Nat), l.length = i + d → Ev (fun k => estreatref07_Read.l0 k l n (unp l (8 * i)) i) R := by
  intro d
  induction d with
  | zero =>
    intro i hi
    obtain rfl : i = l.length := by omega
    refine Ev.step (fun k => ?_) H
    simp only [estreatref07_Read.l0]
    rw [if_neg (by omega)]
  | succ d ih =>
    intro i hi
    have hlt : i < l.length := by omega
    have hv := hw l[i] (List.getElem_mem hlt)
    obtain ⟨m, hm⟩ := Int.eq_ofNat_of_zero_le hv.1
    have hg : l.getD i 0 = m := by rw [← hm]; simp [List.getD, hlt]
    have h1 := rRead_l1 l n i R m (by omega) (by omega) hg (ih (i + 1) (by omega)) 8 0 rfl
    refine Ev.step (fun k => ?_) h1
    simp only [estreatref07_Read.l0]
    rw [if_pos (by omega), if_pos (by omega), rd_get hlt, hm]
    simp
/-- What the document's Read hands back. -/
def readMarks (l : List Int) (n : Int) : List Bool := if readErr l n = 0 then unp l n.toNat else []
theorem rRead (l : List Int) (n : Int) (hw : ∀ v ∈ l, 0 ≤ v ∧ v < 256) : Ev (fun k => estreatref07_Read.f k l n) (readMarks l n, readErr l n) := by
  by_cases h1 : n < 0 ∨ 65536 < n
  · have e : readErr l n = 1 := by unfold readErr; rw [if_pos h1]
    have hj : Ev (fun k => estreatref07_Read.j0 k l n true) (readMarks l n, readErr l n) := by
      unfold readMarks
      rw [e, if_neg (by decide)]
      refine Ev.step (fun k => ?_) (Ev.now _)
      simp only [estreatref07_Read.j0]
      rw [if_pos trivial]
    unfold estreatref07_Read.f
    by_cases h2 : n < 0
    · simp only [if_pos h2]; exact hj
    · simp only [if_neg h2, decide_eq_true (show n > 65536 by omega)]; exact hj
  · have h2 : ¬ n < 0 := by omega
    unfold estreatref07_Read.f
    simp only [if_neg h2, decide_eq_false (show ¬ n > 65536 by omega)]
    obtain ⟨m, rfl⟩ := Int.eq_ofNat_of_zero_le (show 0 ≤ n by omega)
    have hm : m ≤ 65536 := by omega
    have ed : Int.tdiv (m : Int) 8 = (m : Int) / 8 := Int.tdiv_eq_ediv_of_nonneg (by omega)
    suffices hj : Ev (fun k => estreatref07_Read.j1 k l m (((m + 7) / 8 : Nat) : Int)) (readMarks l m, readErr l m) by
      refine Ev.step (fun k => ?_) hj
      simp only [estreatref07_Read.j0]
      rw [if_neg (by decide), ed, w64 (n := (m : Int) / 8) (by omega) (by omega), w64 (n := 8 * ((m : Int) / 8)) (by omega) (by omega), w64 (n := (m : Int) / 8 + 1) (by omega) (by omega)]
      by_cases h3 : 8 * ((m : Int) / 8) < m
      · rw [if_pos h3, show (m : Int) / 8 + 1 = (((m + 7) / 8 : Nat) : Int) from by omega]
      · rw [if_neg h3, show (m : Int) / 8 = (((m + 7) / 8 : Nat) : Int) from by omega]
    by_cases h3 : (l.length : Int) < ((m : Int) + 7) / 8
    · have e : readErr l m = 2 := by unfold readErr; rw [if_neg h1, if_pos h3]
      unfold readMarks
      rw [e, if_neg (by decide)]
      refine Ev.step (fun k => ?_) (Ev.now _)
      simp only [estreatref07_Read.j1]
      rw [if_pos (by omega)]
    by_cases h4 : ((m : Int) + 7) / 8 < (l.length : Int)
    · have e : readErr l m = 3 := by unfold readErr; rw [if_neg h1, if_neg h3, if_pos h4]
      unfold readMarks
      rw [e, if_neg (by decide)]
      refine Ev.step (fun k => ?_) (Ev.now _)
      simp only [estreatref07_Read.j1]
      rw [if_neg (by omega), if_pos (by omega)]
    have hl : l.length = (m + 7) / 8 := by omega
    have hul : (unp l (8 * l.length)).length = 8 * l.length := unp_len _ _
    suffices H : Ev (fun k => estreatref07_Read.l2 k m (unp l (8 * l.length)) m) (readMarks l m, readErr l m) by
      have h0 := rRead_l0 l m _ (by omega) hw H l.length 0 (by omega)
      refine Ev.step (fun k => ?_) h0
      simp only [estreatref07_Read.j1]
      rw [if_neg (by omega), if_neg (by omega)]
      rfl
    by_cases h5 : readErr l m = 0
    · unfold readMarks
      rw [h5, if_pos rfl]
      have := rRead_l2 m (unp l (8 * l.length)) (by rw [hul]; omega) (by omega) (by rw [hul]; omega) (8 * l.length - m) m (by rw [hul]; omega) (fun j hj1 hj2 => by
        rw [hul] at hj2
        have hk : j / 8 < l.length := by omega
        rw [unp_at _ _ _ hj2]
        have := unp_get l m hw hl h5 (j / 8) (j % 8) hk (by omega)
        rw [← this, show 8 * (j / 8) + j % 8 = j from by omega]
        simp [List.getD, unp_len, hj1])
      rw [unp_take _ _ _ (by omega)] at this
      exact this
    · have e : readErr l m = 4 ∧ (m : Int) % 8 ≠ 0 ∧ l.getD (l.length - 1) 0 / 2 ^ (m % 8) ≠ 0 := by
        unfold readErr at h5 ⊢
        rw [if_neg h1, if_neg h3, if_neg h4] at h5 ⊢
        by_cases h6 : (m : Int) % 8 ≠ 0 ∧ l.getD (l.length - 1) 0 / 2 ^ ((m : Int) % 8).toNat ≠ 0
        · rw [if_pos h6]
          rw [show ((m : Int) % 8).toNat = m % 8 from by omega] at h6
          exact ⟨rfl, h6⟩
        · rw [if_neg h6] at h5
          exact absurd rfl h5
      obtain ⟨e, h6, h7⟩ := e
      unfold readMarks
      rw [e, if_neg (by decide)]
      have hpos : l.length - 1 < l.length := by omega
      have hv := hw (l.getD (l.length - 1) 0) (by simp [List.getD, hpos])
      obtain ⟨v, hv2⟩ := Int.eq_ofNat_of_zero_le hv.1
      rw [hv2] at h7
      obtain ⟨q, hq1, hq2⟩ := high_iff ⟨v, by omega⟩ ⟨m % 8, by omega⟩ h7
      have hj : 8 * (l.length - 1) + q.1 < 8 * l.length := by have := q.2; omega
      refine rRead_l2b m (unp l (8 * l.length)) (by rw [hul]; omega) (8 * (l.length - 1) + q.1) (by rw [hul]; exact hj) ?_ (8 * (l.length - 1) + q.1 - m) m (by have := q.2; simp only at hq1; omega)
      rw [unp_at _ _ _ hj, show (8 * (l.length - 1) + q.1) / 8 = l.length - 1 from by have := q.2; omega, show (8 * (l.length - 1) + q.1) % 8 = q.1 from by have := q.2; omega, hv2]
      exact hq2
theorem rRead_any (W : World) (A : Option Addr) (c : Nat) (l : List Int) (n : Int) (hr : (Kd.int .u8).C W A l.length l) (hc : l.length ≤ c) (hw : ∀ v ∈ l, 0 ≤ v ∧ v < 256) :
    Calls Try.prog 39 #[.slice A l.length c, .int .i64 n] W fun e w' => ∃ A' c', e = .returned (.tuple #[.slice A' (readMarks l n).length c', .int .i64 (readErr l n)]) ∧ (readMarks l n).length ≤ c' ∧ Kd.bool.C w' A' (readMarks l n).length (readMarks l n) ∧ Below W.heap.size W w' := by
  obtain ⟨k, hk⟩ := (rRead l n hw).rounds
  refine (estreatref07_Read.calls k A c l n _ _ W hr hc hk).mono ?_
  rintro e w' ⟨v, rfl, hR, hB⟩
  obtain ⟨A', c', rfl⟩ := Kd.R_slice hR
  obtain ⟨_, hc, hC⟩ := Kd.R_reads' hR
  exact ⟨A', c', rfl, hc, hC, hB⟩
end Go.Proofs.Ytbjnfephigcdkaa.Bits
