/- WRITTEN BY A PROGRAM of this session (wip/tool: a turned copy of the printer), out of the translation: Lean functions with the answers of the Go functions, and the proofs that the Go code comes to them. -/
import Derived.Test.YtjmhfbgpebgcmaaDoorPRunsBackx0
namespace Go.Proofs.YtjmhfbgpebgcmaaDoor.PRunsBack
open Go.RowKit Go.Proofs.YtjmhfbgpebgcmaaDoorW.PrintWords Go.Proofs.YtjmhfbgpebgcmaaDoorW.PrintLast Go.Proofs.YtjmhfbgpebgcmaaDoorW.PrintMore
attribute [local go_sem] max2_int min2_int max_two min_two max_three min_three max_four min_four   -- for this text's walks alone
set_option linter.unusedVariables false
set_option linter.unusedSimpArgs false

/-! ### estreatref01_Same: function 25 -/
def estreatref01_Same.l0 : Nat → List Int → List Int → Int → Option (Bool)
  | 0, _, _, _ => none
  | k + 1, x0, x1, x5 => if x5 < (x0.length : Int) then (if 0 ≤ x5 then (if x5 < (x1.length : Int) then (if (rd x0 x5) = (rd x1 x5) then (estreatref01_Same.l0 k x0 x1 (wrap64 (x5 + 1))) else (some false)) else (none)) else (none)) else (some true)
def estreatref01_Same.f (k : Nat) (l0 : List Int) (l1 : List Int) : Option (Bool) := if (l0.length : Int) = (l1.length : Int) then (estreatref01_Same.l0 k l0 l1 0) else (some false)
theorem estreatref01_Same.mono_l : ∀ k, (∀ y0 y1 y2, LeO (estreatref01_Same.l0 k y0 y1 y2) (estreatref01_Same.l0 (k + 1) y0 y1 y2))
  | 0 => fun _ _ _ r h => by simp [estreatref01_Same.l0] at h
  | k + 1 => by
    have ih0 := estreatref01_Same.mono_l k
    · intro y0 y1 y2
      unfold estreatref01_Same.l0
      repeat' first
      | (with_reducible exact ih0 _ _ _)
      | (with_reducible exact LeO.refl _)
      | (with_reducible exact LeO.none _)
      | (with_reducible refine LeO.ite ?_ ?_)
      | (with_reducible refine LeO.bind ?_ (fun _ => ?_))
      | exact ih0 _ _ _
      | exact LeO.none _
      | refine LeO.ite ?_ ?_
      | refine LeO.bind ?_ (fun _ => ?_)
theorem estreatref01_Same.mono : ∀ a0 a1 k, LeO (estreatref01_Same.f k a0 a1) (estreatref01_Same.f (k + 1) a0 a1) := by
  intro a0 a1 k
  have ih0 := estreatref01_Same.mono_l k
  unfold estreatref01_Same.f
  repeat' first
      | (with_reducible exact ih0 _ _ _)
      | (with_reducible exact LeO.refl _)
      | (with_reducible exact LeO.none _)
      | (with_reducible refine LeO.ite ?_ ?_)
      | (with_reducible refine LeO.bind ?_ (fun _ => ?_))
      | exact ih0 _ _ _
      | exact LeO.none _
      | refine LeO.ite ?_ ?_
      | refine LeO.bind ?_ (fun _ => ?_)
set_option maxHeartbeats 8000000 in
set_option maxRecDepth 100000 in
theorem estreatref01_Same.calls (k : Nat) (A0 : Option Addr) (c0 : Nat) (l0 : List Int) (A1 : Option Addr) (c1 : Nat) (l1 : List Int) (r : Bool) (w : World) (hr0 : Kd.C (Kd.int .u8) w A0 l0.length l0) (hc0 : l0.length ≤ c0) (hr1 : Kd.C (Kd.int .u8) w A1 l1.length l1) (hc1 : l1.length ≤ c1) (h : estreatref01_Same.f k l0 l1 = some r) :
    Calls Tryd.prog 25 #[.slice A0 l0.length c0, .slice A1 l1.length c1] w fun e w' => e = .returned (.bool r) ∧ Drawn0 w w' := by
  have HR0 := Aside0.mk hr0
  have HC0 := Aside0.mk hc0
  clear hr0 hc0
  have HR1 := Aside0.mk hr1
  have HC1 := Aside0.mk hc1
  clear hr1 hc1
  have H : (if (l0.length : Int) = (l1.length : Int) then (estreatref01_Same.l0 k l0 l1 0) else (some false)) = some r := h
  clear h
  by_cases c3 : (l0.length : Int) = (l1.length : Int)
  · rw [if_pos c3] at H
    have c3b0 : ((l0.length : Int) == (l1.length : Int)) = true := beq_iff_eq.mpr c3
    have c3b1 : ((l0.length : Int) != (l1.length : Int)) = false := bne_eq_false_iff_eq.mpr c3
    have c3b2 : (l0.length == l1.length) = true := by first | simpa using c3 | (simp at c3 ⊢; omega)
    clear c3
    have H' := Aside0.mk H
    clear H
    go_enter Tryd.func25, Tryd.ntmps25
    go_wp2
    repeat (go_quiet (fail); try go_wp2)
    go_loopg [5] k (fun kq v5 w' => ∃ (x5_1 : Int), v5 = .int .i64 x5_1 ∧ Aside0 (estreatref01_Same.l0 kq l0 l1 x5_1 = some r) ∧ Aside0 (kq ≤ k) ∧ Drawn0 w w')
    case atStart => exact ⟨(0), (by first | rfl | (simp; done) | (simp [*]; done)), H', ⟨Nat.le_refl _⟩, by repeat (first | exact Drawn0.refl _ | apply Drawn0.step)⟩
    case round =>
      clear H'
      try clear c1
      try clear c2
      try clear p2
      try clear c3
      try clear c3b0
      try clear c3b1
      try clear c3b2
      obtain ⟨x5_1, rfl, HA, HK1, ⟨m1, rfl⟩⟩ := hrel
      cases gk with
      | zero => exact absurd HA.out (by simp [estreatref01_Same.l0])
      | succ k1 =>
        have H := HA.out
        clear HA
        simp only [estreatref01_Same.l0] at H
        by_cases c4 : x5_1 < (l0.length : Int)
        · rw [if_pos c4] at H
          have c4b0 : decide (x5_1 < (l0.length : Int)) = true := decide_eq_true c4
          clear c4
          by_cases c5 : 0 ≤ x5_1
          · rw [if_pos c5] at H
            have c5b0 : decide (0 ≤ x5_1) = true := decide_eq_true c5
            clear c5
            by_cases c6 : x5_1 < (l1.length : Int)
            · rw [if_pos c6] at H
              have c6b0 : decide (x5_1 < (l1.length : Int)) = true := decide_eq_true c6
              clear c6
              by_cases c7 : (rd l0 x5_1) = (rd l1 x5_1)
              · rw [if_pos c7] at H
                have c7b0 : ((rd l0 x5_1) == (rd l1 x5_1)) = true := beq_iff_eq.mpr c7
                have c7b1 : ((rd l0 x5_1) != (rd l1 x5_1)) = false := bne_eq_false_iff_eq.mpr c7
                clear c7
                have H' := Aside0.mk H
                clear H
                have p101 : 0 ≤ (x5_1 : Int) := of_decide_eq_true (by first | (with_reducible assumption) | assumption)
                have q101 : x5_1 < (l0.length : Int) := of_decide_eq_true (by first | (with_reducible assumption) | assumption)
                obtain ⟨ad101, e101, hx101_0⟩ := Kd.at_int HR0.out x5_1 p101 q101
                cases e101
                replace p101 := eq_true p101
                replace q101 := eq_true q101
                have p102 : 0 ≤ (x5_1 : Int) := of_decide_eq_true (by first | (with_reducible assumption) | assumption)
                have q102 : x5_1 < (l1.length : Int) := of_decide_eq_true (by first | (with_reducible assumption) | assumption)
                obtain ⟨ad102, e102, hx102_0⟩ := Kd.at_int HR1.out x5_1 p102 q102
                cases e102
                replace p102 := eq_true p102
                replace q102 := eq_true q102
                go_wp2
                repeat (go_quiet (fail); try go_wp2)
                go_roundg k1
                case measure => have := HK1.out; omega
                case rel => exact ⟨(wrap64 (x5_1 + 1)), (by first | rfl | (simp; done) | (simp [*]; done)), H', ⟨by have := HK1.out; omega⟩, by repeat (first | exact Drawn0.refl _ | apply Drawn0.step)⟩
              · rw [if_neg c7] at H
                have c7b0 : ((rd l0 x5_1) == (rd l1 x5_1)) = false := beq_eq_false_iff_ne.mpr c7
                have c7b1 : ((rd l0 x5_1) != (rd l1 x5_1)) = true := bne_iff_ne.mpr c7
                obtain rfl := Option.some.inj H
                have p101 : 0 ≤ (x5_1 : Int) := of_decide_eq_true (by first | (with_reducible assumption) | assumption)
                have q101 : x5_1 < (l0.length : Int) := of_decide_eq_true (by first | (with_reducible assumption) | assumption)
                obtain ⟨ad101, e101, hx101_0⟩ := Kd.at_int HR0.out x5_1 p101 q101
                cases e101
                replace p101 := eq_true p101
                replace q101 := eq_true q101
                have p102 : 0 ≤ (x5_1 : Int) := of_decide_eq_true (by first | (with_reducible assumption) | assumption)
                have q102 : x5_1 < (l1.length : Int) := of_decide_eq_true (by first | (with_reducible assumption) | assumption)
                obtain ⟨ad102, e102, hx102_0⟩ := Kd.at_int HR1.out x5_1 p102 q102
                cases e102
                replace p102 := eq_true p102
                replace q102 := eq_true q102
                go_wp2
                repeat (go_quiet (fail); try go_wp2)
                go_ret
                exact ⟨by first | rfl | (simp; done) | (simp [*]; done), by repeat (first | exact Drawn0.refl _ | apply Drawn0.step)⟩
            · rw [if_neg c6] at H
              exact absurd H (by simp)
          · rw [if_neg c5] at H
            exact absurd H (by simp)
        · rw [if_neg c4] at H
          have c4b0 : decide (x5_1 < (l0.length : Int)) = false := decide_eq_false c4
          clear c4
          obtain rfl := Option.some.inj H
          go_wp2
          repeat (go_quiet (fail); try go_wp2)
          go_ret
          exact ⟨by first | rfl | (simp; done) | (simp [*]; done), by repeat (first | exact Drawn0.refl _ | apply Drawn0.step)⟩
  · rw [if_neg c3] at H
    have c3b0 : ((l0.length : Int) == (l1.length : Int)) = false := beq_eq_false_iff_ne.mpr c3
    have c3b1 : ((l0.length : Int) != (l1.length : Int)) = true := bne_iff_ne.mpr c3
    have c3b2 : (l0.length == l1.length) = false := by first | simpa using c3 | (simp at c3 ⊢; omega)
    obtain rfl := Option.some.inj H
    go_enter Tryd.func25, Tryd.ntmps25
    go_wp2
    repeat (go_quiet (fail); try go_wp2)
    go_ret
    exact ⟨by first | rfl | (simp; done) | (simp [*]; done), by repeat (first | exact Drawn0.refl _ | apply Drawn0.step)⟩

/-! ### estreatref08_Same: function 38 -/
def estreatref08_Same.l0 : Nat → List Int → List Int → Int → Option (Bool)
  | 0, _, _, _ => none
  | k + 1, x0, x1, x5 => if x5 < (x0.length : Int) then (if 0 ≤ x5 then (if x5 < (x1.length : Int) then (if (rd x0 x5) = (rd x1 x5) then (estreatref08_Same.l0 k x0 x1 (wrap64 (x5 + 1))) else (some false)) else (none)) else (none)) else (some true)
def estreatref08_Same.f (k : Nat) (l0 : List Int) (l1 : List Int) : Option (Bool) := if (l0.length : Int) = (l1.length : Int) then (estreatref08_Same.l0 k l0 l1 0) else (some false)
theorem estreatref08_Same.mono_l : ∀ k, (∀ y0 y1 y2, LeO (estreatref08_Same.l0 k y0 y1 y2) (estreatref08_Same.l0 (k + 1) y0 y1 y2))
  | 0 => fun _ _ _ r h => by simp [estreatref08_Same.l0] at h
  | k + 1 => by
    have ih0 := estreatref08_Same.mono_l k
    · intro y0 y1 y2
      unfold estreatref08_Same.l0
      repeat' first
      | (with_reducible exact ih0 _ _ _)
      | (with_reducible exact LeO.refl _)
      | (with_reducible exact LeO.none _)
      | (with_reducible refine LeO.ite ?_ ?_)
      | (with_reducible refine LeO.bind ?_ (fun _ => ?_))
      | exact ih0 _ _ _
      | exact LeO.none _
      | refine LeO.ite ?_ ?_
      | refine LeO.bind ?_ (fun _ => ?_)
theorem estreatref08_Same.mono : ∀ a0 a1 k, LeO (estreatref08_Same.f k a0 a1) (estreatref08_Same.f (k + 1) a0 a1) := by
  intro a0 a1 k
  have ih0 := estreatref08_Same.mono_l k
  unfold estreatref08_Same.f
  repeat' first
      | (with_reducible exact ih0 _ _ _)
      | (with_reducible exact LeO.refl _)
      | (with_reducible exact LeO.none _)
      | (with_reducible refine LeO.ite ?_ ?_)
      | (with_reducible refine LeO.bind ?_ (fun _ => ?_))
      | exact ih0 _ _ _
      | exact LeO.none _
      | refine LeO.ite ?_ ?_
      | refine LeO.bind ?_ (fun _ => ?_)
set_option maxHeartbeats 8000000 in
set_option maxRecDepth 100000 in
theorem estreatref08_Same.calls (k : Nat) (A0 : Option Addr) (c0 : Nat) (l0 : List Int) (A1 : Option Addr) (c1 : Nat) (l1 : List Int) (r : Bool) (w : World) (hr0 : Kd.C (Kd.int .i64) w A0 l0.length l0) (hc0 : l0.length ≤ c0) (hr1 : Kd.C (Kd.int .i64) w A1 l1.length l1) (hc1 : l1.length ≤ c1) (h : estreatref08_Same.f k l0 l1 = some r) :
    Calls Tryd.prog 38 #[.slice A0 l0.length c0, .slice A1 l1.length c1] w fun e w' => e = .returned (.bool r) ∧ Drawn0 w w' := by
  have HR0 := Aside0.mk hr0
  have HC0 := Aside0.mk hc0
  clear hr0 hc0
  have HR1 := Aside0.mk hr1
  have HC1 := Aside0.mk hc1
  clear hr1 hc1
  have H : (if (l0.length : Int) = (l1.length : Int) then (estreatref08_Same.l0 k l0 l1 0) else (some false)) = some r := h
  clear h
  by_cases c3 : (l0.length : Int) = (l1.length : Int)
  · rw [if_pos c3] at H
    have c3b0 : ((l0.length : Int) == (l1.length : Int)) = true := beq_iff_eq.mpr c3
    have c3b1 : ((l0.length : Int) != (l1.length : Int)) = false := bne_eq_false_iff_eq.mpr c3
    have c3b2 : (l0.length == l1.length) = true := by first | simpa using c3 | (simp at c3 ⊢; omega)
    clear c3
    have H' := Aside0.mk H
    clear H
    go_enter Tryd.func38, Tryd.ntmps38
    go_wp2
    repeat (go_quiet (fail); try go_wp2)
    go_loopg [5] k (fun kq v5 w' => ∃ (x5_1 : Int), v5 = .int .i64 x5_1 ∧ Aside0 (estreatref08_Same.l0 kq l0 l1 x5_1 = some r) ∧ Aside0 (kq ≤ k) ∧ Drawn0 w w')
    case atStart => exact ⟨(0), (by first | rfl | (simp; done) | (simp [*]; done)), H', ⟨Nat.le_refl _⟩, by repeat (first | exact Drawn0.refl _ | apply Drawn0.step)⟩
    case round =>
      clear H'
      try clear c1
      try clear p2
      try clear c3
      try clear c3b0
      try clear c3b1
      try clear c3b2
      obtain ⟨x5_1, rfl, HA, HK1, ⟨m1, rfl⟩⟩ := hrel
      cases gk with
      | zero => exact absurd HA.out (by simp [estreatref08_Same.l0])
      | succ k1 =>
        have H := HA.out
        clear HA
        simp only [estreatref08_Same.l0] at H
        by_cases c4 : x5_1 < (l0.length : Int)
        · rw [if_pos c4] at H
          have c4b0 : decide (x5_1 < (l0.length : Int)) = true := decide_eq_true c4
          clear c4
          by_cases c5 : 0 ≤ x5_1
          · rw [if_pos c5] at H
            have c5b0 : decide (0 ≤ x5_1) = true := decide_eq_true c5
            clear c5
            by_cases c6 : x5_1 < (l1.length : Int)
            · rw [if_pos c6] at H
              have c6b0 : decide (x5_1 < (l1.length : Int)) = true := decide_eq_true c6
              clear c6
              by_cases c7 : (rd l0 x5_1) = (rd l1 x5_1)
              · rw [if_pos c7] at H
                have c7b0 : ((rd l0 x5_1) == (rd l1 x5_1)) = true := beq_iff_eq.mpr c7
                have c7b1 : ((rd l0 x5_1) != (rd l1 x5_1)) = false := bne_eq_false_iff_eq.mpr c7
                clear c7
                have H' := Aside0.mk H
                clear H
                have p103 : 0 ≤ (x5_1 : Int) := of_decide_eq_true (by first | (with_reducible assumption) | assumption)
                have q103 : x5_1 < (l0.length : Int) := of_decide_eq_true (by first | (with_reducible assumption) | assumption)
                obtain ⟨ad103, e103, hx103_0⟩ := Kd.at_int HR0.out x5_1 p103 q103
                cases e103
                replace p103 := eq_true p103
                replace q103 := eq_true q103
                have p104 : 0 ≤ (x5_1 : Int) := of_decide_eq_true (by first | (with_reducible assumption) | assumption)
                have q104 : x5_1 < (l1.length : Int) := of_decide_eq_true (by first | (with_reducible assumption) | assumption)
                obtain ⟨ad104, e104, hx104_0⟩ := Kd.at_int HR1.out x5_1 p104 q104
                cases e104
                replace p104 := eq_true p104
                replace q104 := eq_true q104
                go_wp2
                repeat (go_quiet (fail); try go_wp2)
                go_roundg k1
                case measure => have := HK1.out; omega
                case rel => exact ⟨(wrap64 (x5_1 + 1)), (by first | rfl | (simp; done) | (simp [*]; done)), H', ⟨by have := HK1.out; omega⟩, by repeat (first | exact Drawn0.refl _ | apply Drawn0.step)⟩
              · rw [if_neg c7] at H
                have c7b0 : ((rd l0 x5_1) == (rd l1 x5_1)) = false := beq_eq_false_iff_ne.mpr c7
                have c7b1 : ((rd l0 x5_1) != (rd l1 x5_1)) = true := bne_iff_ne.mpr c7
                obtain rfl := Option.some.inj H
                have p103 : 0 ≤ (x5_1 : Int) := of_decide_eq_true (by first | (with_reducible assumption) | assumption)
                have q103 : x5_1 < (l0.length : Int) := of_decide_eq_true (by first | (with_reducible assumption) | assumption)
                obtain ⟨ad103, e103, hx103_0⟩ := Kd.at_int HR0.out x5_1 p103 q103
                cases e103
                replace p103 := eq_true p103
                replace q103 := eq_true q103
                have p104 : 0 ≤ (x5_1 : Int) := of_decide_eq_true (by first | (with_reducible assumption) | assumption)
                have q104 : x5_1 < (l1.length : Int) := of_decide_eq_true (by first | (with_reducible assumption) | assumption)
                obtain ⟨ad104, e104, hx104_0⟩ := Kd.at_int HR1.out x5_1 p104 q104
                cases e104
                replace p104 := eq_true p104
                replace q104 := eq_true q104
                go_wp2
                repeat (go_quiet (fail); try go_wp2)
                go_ret
                exact ⟨by first | rfl | (simp; done) | (simp [*]; done), by repeat (first | exact Drawn0.refl _ | apply Drawn0.step)⟩
            · rw [if_neg c6] at H
              exact absurd H (by simp)
          · rw [if_neg c5] at H
            exact absurd H (by simp)
        · rw [if_neg c4] at H
          have c4b0 : decide (x5_1 < (l0.length : Int)) = false := decide_eq_false c4
          clear c4
          obtain rfl := Option.some.inj H
          go_wp2
          repeat (go_quiet (fail); try go_wp2)
          go_ret
          exact ⟨by first | rfl | (simp; done) | (simp [*]; done), by repeat (first | exact Drawn0.refl _ | apply Drawn0.step)⟩
  · rw [if_neg c3] at H
    have c3b0 : ((l0.length : Int) == (l1.length : Int)) = false := beq_eq_false_iff_ne.mpr c3
    have c3b1 : ((l0.length : Int) != (l1.length : Int)) = true := bne_iff_ne.mpr c3
    have c3b2 : (l0.length == l1.length) = false := by first | simpa using c3 | (simp at c3 ⊢; omega)
    obtain rfl := Option.some.inj H
    go_enter Tryd.func38, Tryd.ntmps38
    go_wp2
    repeat (go_quiet (fail); try go_wp2)
    go_ret
    exact ⟨by first | rfl | (simp; done) | (simp [*]; done), by repeat (first | exact Drawn0.refl _ | apply Drawn0.step)⟩

/-! ### num_PutVar: function 11 -/
def num_PutVar.l0 : Nat → List Int → Int → Option (List Int)
  | 0, _, _ => none
  | k + 1, x0, x1 => if x1 ≥ 128 then (if x0.length < 140737488355328 then (num_PutVar.l0 k (x0 ++ [Go.bits .or .u8 ((x1) % 256) 128]) (x1 / 128)) else (none)) else (if x0.length < 140737488355328 then (some (x0 ++ [(x1) % 256])) else (none))
def num_PutVar.f (k : Nat) (l0 : List Int) (a1 : Int) : Option (List Int) := num_PutVar.l0 k l0 a1
theorem num_PutVar.mono_l : ∀ k, (∀ y0 y1, LeO (num_PutVar.l0 k y0 y1) (num_PutVar.l0 (k + 1) y0 y1))
  | 0 => fun _ _ r h => by simp [num_PutVar.l0] at h
  | k + 1 => by
    have ih0 := num_PutVar.mono_l k
    · intro y0 y1
      unfold num_PutVar.l0
      repeat' first
      | (with_reducible exact ih0 _ _)
      | (with_reducible exact LeO.refl _)
      | (with_reducible exact LeO.none _)
      | (with_reducible refine LeO.ite ?_ ?_)
      | (with_reducible refine LeO.bind ?_ (fun _ => ?_))
      | exact ih0 _ _
      | exact LeO.none _
      | refine LeO.ite ?_ ?_
      | refine LeO.bind ?_ (fun _ => ?_)
theorem num_PutVar.mono : ∀ a0 a1 k, LeO (num_PutVar.f k a0 a1) (num_PutVar.f (k + 1) a0 a1) := by
  intro a0 a1 k
  have ih0 := num_PutVar.mono_l k
  unfold num_PutVar.f
  repeat' first
      | (with_reducible exact ih0 _ _)
      | (with_reducible exact LeO.refl _)
      | (with_reducible exact LeO.none _)
      | (with_reducible refine LeO.ite ?_ ?_)
      | (with_reducible refine LeO.bind ?_ (fun _ => ?_))
      | exact ih0 _ _
      | exact LeO.none _
      | refine LeO.ite ?_ ?_
      | refine LeO.bind ?_ (fun _ => ?_)
set_option maxHeartbeats 8000000 in
set_option maxRecDepth 100000 in
theorem num_PutVar.calls (k : Nat) (P0_ : Nat → Prop) (u9000_ : Value) (l0 : List Int) (a1 : Int) (r : List Int) (w0 w : World) (hB : Below w0.heap.size w0 w) (ho0 : Kd.R (Kd.int .u8) 5 w w0.heap.size P0_ u9000_ l0) (h : num_PutVar.f k l0 a1 = some r) :
    Calls Tryd.prog 11 #[u9000_, .int .u64 a1] w fun e w' => ∃ v0_ : Value, e = .returned (v0_) ∧ Kd.R (Kd.int .u8) 5 w' w0.heap.size (fun k_ => (P0_ k_ ∨ w.heap.size ≤ k_)) v0_ r ∧ Below w0.heap.size w0 w' ∧ Kept w w' (fun k_ => P0_ k_) := by
  have HO0 := Aside0.mk (show Kd.R (Kd.int .u8) 5 w w0.heap.size (fun k_ => (P0_ k_ ∨ w.heap.size ≤ k_)) u9000_ l0 from Kd.R_mono ho0 (fun k_ hk => (.inl hk)))
  have HK := Aside0.mk (Kept.refl w (fun k_ => P0_ k_))
  have HW0 := Aside0.mk hB.size
  have HB := Aside0.mk hB
  clear hB
  have H : (num_PutVar.l0 k l0 a1) = some r := h
  clear h
  have H' := Aside0.mk H
  clear H
  go_enter Tryd.func11, Tryd.ntmps11
  go_wp2
  go_loopg [0, 1] k (fun kq v0 v1 w' => ∃ (x0_1 : List Int) (x1_1 : Int), v1 = .int .u64 x1_1 ∧ Aside0 (num_PutVar.l0 kq x0_1 x1_1 = some r) ∧ Aside0 (kq ≤ k) ∧ Aside0 (Kd.R (Kd.int .u8) 5 w' w0.heap.size (fun k_ => (P0_ k_ ∨ w.heap.size ≤ k_)) v0 x0_1) ∧ Aside0 (Kept w w' (fun k_ => P0_ k_)) ∧ Aside0 (Below w0.heap.size w0 w'))
  case atStart => exact ⟨(l0), (a1), (by first | rfl | (simp; done) | (simp [*]; done)), H', ⟨Nat.le_refl _⟩, ⟨by (with_reducible repeat (first | apply Kd.R_alloc | apply Kd.R_drewN | apply Kd.R_drew)); exact HO0.out⟩, ⟨by repeat (first | (with_reducible first | exact HK.out | apply Kept.alloc | apply Kept.drewN | apply Kept.drew) | exact HK.out)⟩, ⟨by repeat (first | (with_reducible first | exact HB.out | apply below_alloc | apply pw_below_drewN | apply below_drew1) | exact HB.out)⟩⟩
  case round =>
    clear H'
    try clear c1
    try clear p2
    obtain ⟨x0_1, x1_1, rfl, HA, HK1, HO_0, HK, HB⟩ := hrel
    cases gk with
    | zero => exact absurd HA.out (by simp [num_PutVar.l0])
    | succ k1 =>
      have H := HA.out
      clear HA
      simp only [num_PutVar.l0] at H
      by_cases c3 : x1_1 ≥ 128
      · rw [if_pos c3] at H
        have c3b0 : decide (128 ≤ x1_1) = true := decide_eq_true c3
        clear c3
        by_cases c4 : x0_1.length < 140737488355328
        · rw [if_pos c4] at H
          have LMc4 := Aside0.mk c4
          clear c4
          obtain ⟨y105, hy105⟩ : ∃ y_ : List Int, y_ = (x0_1 ++ [Go.bits .or .u8 ((x1_1) % 256) 128]) := ⟨_, rfl⟩
          replace H : (num_PutVar.l0 k1 y105 (x1_1 / 128)) = some r := by first | (rw [hy105]; with_reducible exact H) | (have H2_ := (Option.bind_some _ _).symm.trans H; rw [hy105]; with_reducible exact H2_) | (have H2_ := (Option.bind_some _ _).symm.trans H; with_reducible exact H2_) | with_reducible exact H | (rw [hy105]; exact H) | exact H
          have Ny105 := Aside0.mk hy105
          clear hy105
          have H' := Aside0.mk H
          clear H
          go_wp2_with (first | ((with_reducible refine gate_builtin (b := .append) (xs := #[.tmp 9, .tmp 13]) rfl ?_); at_builtin; refine Kd.R_append (Kd.int .u8) (w0 := w0) w0.heap.size rfl (.tmp 9) (.tmp 13) 23 5 (.int .u8 0) 1 rfl Tryd.underlying23 info5 rfl (by decide) (by omega) u0 x0_1 (Go.bits .or .u8 ((x1_1) % 256) 128) [.int .u8 (Go.bits .or .u8 ((x1_1) % 256) 128)] (fun k_ => (P0_ k_ ∨ w.heap.size ≤ k_)) (fun _ => False) rfl rfl ?aP (fun _ hk => hk.elim) ?aF ?aO ?aB ?aS ?aL ?_; (case aP => exact rfl); (case aB => exact (by repeat (first | (with_reducible first | exact HB.out | apply below_alloc | apply pw_below_drewN | apply below_drew1) | exact HB.out))); (case aF => exact (fun k_ hk => (.inr (Nat.le_trans (by first | exact HK.out.1 | exact (show Kept w _ (fun k_ => P0_ k_) from by repeat (first | (with_reducible first | exact HK.out | apply Kept.alloc | apply Kept.drewN | apply Kept.drew) | exact HK.out)).1) hk)))); (case aO => exact (by (with_reducible repeat (first | apply Kd.R_alloc | apply Kd.R_drewN | apply Kd.R_drew)); exact HO_0.out)); (case aS => exact (below_size (by repeat (first | (with_reducible first | exact HB.out | apply below_alloc | apply pw_below_drewN | apply below_drew1) | exact HB.out)))); (case aL => have := LMc4.out; omega); intro v106 w5 ho hb hg hat; rw [← Ny105.out] at ho; have n0_ := Aside0.mk (hb); have n1_ := Aside0.mk (Kept.of_grown (S := (fun k_ => P0_ k_)) hg (by repeat (first | (with_reducible first | exact HK.out | apply Kept.alloc | apply Kept.drewN | apply Kept.drew) | exact HK.out)) (fun k_ e_ => (HO_0.out.1 k_ e_))); have n2_ := Aside0.mk (ho); clear HB; clear HK; clear HO_0; have HB := n0_; have HK := n1_; have HO107 := n2_; clear n0_ n1_ n2_; clear ho hb hg hat))
          go_roundg k1
          case measure => have := HK1.out; omega
          case rel => exact ⟨(y105), (x1_1 / 128), (by first | rfl | (simp; done) | (simp [*]; done)), H', ⟨by have := HK1.out; omega⟩, ⟨by (with_reducible repeat (first | apply Kd.R_alloc | apply Kd.R_drewN | apply Kd.R_drew)); exact HO107.out⟩, ⟨by repeat (first | (with_reducible first | exact HK.out | apply Kept.alloc | apply Kept.drewN | apply Kept.drew) | exact HK.out)⟩, ⟨by repeat (first | (with_reducible first | exact HB.out | apply below_alloc | apply pw_below_drewN | apply below_drew1) | exact HB.out)⟩⟩
        · rw [if_neg c4] at H
          exact absurd H (by simp)
      · rw [if_neg c3] at H
        have c3b0 : decide (128 ≤ x1_1) = false := decide_eq_false c3
        clear c3
        by_cases c6 : x0_1.length < 140737488355328
        · rw [if_pos c6] at H
          have LMc6 := Aside0.mk c6
          clear c6
          obtain ⟨y108, hy108⟩ : ∃ y_ : List Int, y_ = (x0_1 ++ [(x1_1) % 256]) := ⟨_, rfl⟩
          replace H : (some y108) = some r := by first | (rw [hy108]; with_reducible exact H) | (have H2_ := (Option.bind_some _ _).symm.trans H; rw [hy108]; with_reducible exact H2_) | (have H2_ := (Option.bind_some _ _).symm.trans H; with_reducible exact H2_) | with_reducible exact H | (rw [hy108]; exact H) | exact H
          have Ny108 := Aside0.mk hy108
          clear hy108
          obtain rfl := Option.some.inj H
          go_wp2_with (first | ((with_reducible refine gate_builtin (b := .append) (xs := #[.tmp 15, .tmp 18]) rfl ?_); at_builtin; refine Kd.R_append (Kd.int .u8) (w0 := w0) w0.heap.size rfl (.tmp 15) (.tmp 18) 23 5 (.int .u8 0) 1 rfl Tryd.underlying23 info5 rfl (by decide) (by omega) u0 x0_1 ((x1_1) % 256) [.int .u8 ((x1_1) % 256)] (fun k_ => (P0_ k_ ∨ w.heap.size ≤ k_)) (fun _ => False) rfl rfl ?aP (fun _ hk => hk.elim) ?aF ?aO ?aB ?aS ?aL ?_; (case aP => exact rfl); (case aB => exact (by repeat (first | (with_reducible first | exact HB.out | apply below_alloc | apply pw_below_drewN | apply below_drew1) | exact HB.out))); (case aF => exact (fun k_ hk => (.inr (Nat.le_trans (by first | exact HK.out.1 | exact (show Kept w _ (fun k_ => P0_ k_) from by repeat (first | (with_reducible first | exact HK.out | apply Kept.alloc | apply Kept.drewN | apply Kept.drew) | exact HK.out)).1) hk)))); (case aO => exact (by (with_reducible repeat (first | apply Kd.R_alloc | apply Kd.R_drewN | apply Kd.R_drew)); exact HO_0.out)); (case aS => exact (below_size (by repeat (first | (with_reducible first | exact HB.out | apply below_alloc | apply pw_below_drewN | apply below_drew1) | exact HB.out)))); (case aL => have := LMc6.out; omega); intro v109 w7 ho hb hg hat; rw [← Ny108.out] at ho; have n0_ := Aside0.mk (hb); have n1_ := Aside0.mk (Kept.of_grown (S := (fun k_ => P0_ k_)) hg (by repeat (first | (with_reducible first | exact HK.out | apply Kept.alloc | apply Kept.drewN | apply Kept.drew) | exact HK.out)) (fun k_ e_ => (HO_0.out.1 k_ e_))); have n2_ := Aside0.mk (ho); clear HB; clear HK; clear HO_0; have HB := n0_; have HK := n1_; have HO110 := n2_; clear n0_ n1_ n2_; clear ho hb hg hat))
          go_ret
          exact ⟨_, by first | rfl | (simp [errW_none, errW_some] <;> rfl) | (simp [*, errW_none, errW_some] <;> rfl), by (with_reducible repeat (first | apply Kd.R_alloc | apply Kd.R_drewN | apply Kd.R_drew)); exact HO110.out, by repeat (first | (with_reducible first | exact HB.out | apply below_alloc | apply pw_below_drewN | apply below_drew1) | exact HB.out), by repeat (first | (with_reducible first | exact HK.out | apply Kept.alloc | apply Kept.drewN | apply Kept.drew) | exact HK.out)⟩
        · rw [if_neg c6] at H
          exact absurd H (by simp)

/-! ### num_Zig: function 27 -/
def num_Zig.f (a0 : Int) : Option (Int) := some (Go.bits .xor .u64 (IntKind.u64.wrap ((IntKind.u64.wrap (a0)) * 2)) (IntKind.u64.wrap (a0 / 9223372036854775808)))
set_option maxHeartbeats 8000000 in
set_option maxRecDepth 100000 in
theorem num_Zig.calls (a0 : Int) (r : Int) (w : World) (h : num_Zig.f a0 = some r) :
    Calls Tryd.prog 27 #[.int .i64 a0] w fun e w' => e = .returned (.int .u64 r) ∧ Drawn0 w w' := by
  have H : (some (Go.bits .xor .u64 (IntKind.u64.wrap ((IntKind.u64.wrap (a0)) * 2)) (IntKind.u64.wrap (a0 / 9223372036854775808)))) = some r := h
  clear h
  obtain rfl := Option.some.inj H
  go_enter Tryd.func27, Tryd.ntmps27
  go_wp2
  go_ret
  exact ⟨by first | rfl | (simp; done) | (simp [*]; done), by repeat (first | exact Drawn0.refl _ | apply Drawn0.step)⟩

/-! ### runs_each: function 54 -/
section
open Go.Shelf
attribute [local go_sem] Oper.semAt_some
/-- the runs of numbers: a number, and how often -/
def runsOf : List Int → List (Int × Nat)
  | [] => []
  | x :: l => match runsOf l with
    | [] => [(x, 1)]
    | (y, k) :: r => if x = y then (y, k + 1) :: r else (x, 1) :: (y, k) :: r
theorem runsOf_cons_ne (x y : Int) (l : List Int) (h : x ≠ y) : runsOf (x :: y :: l) = (x, 1) :: runsOf (y :: l) := by
  have hne : ∃ k r, runsOf (y :: l) = (y, k) :: r := by
    unfold runsOf
    split
    · exact ⟨_, _, rfl⟩
    · rename_i z k r he
      by_cases e : y = z
      · rw [if_pos e]; subst e; exact ⟨_, _, rfl⟩
      · rw [if_neg e]; exact ⟨_, _, rfl⟩
  obtain ⟨k, r, he⟩ := hne
  rw [runsOf, he]
  simp only [if_neg h]
theorem runsOf_head (y : Int) (l : List Int) : ∃ k r, runsOf (y :: l) = (y, k) :: r := by
  unfold runsOf
  split
  · exact ⟨_, _, rfl⟩
  · rename_i z k r he
    by_cases e : y = z
    · rw [if_pos e]; subst e; exact ⟨_, _, rfl⟩
    · rw [if_neg e]; exact ⟨_, _, rfl⟩
/-- a run: what stands at its head, how long it is, what follows -/
theorem runsOf_run (x : Int) (l : List Int) (h : ∀ y r, l = y :: r → y ≠ x) : ∀ k : Nat, runsOf (List.replicate (k + 1) x ++ l) = (x, k + 1) :: runsOf l := by
  intro k
  induction k with
  | zero =>
    cases l with
    | nil => rfl
    | cons y r => exact runsOf_cons_ne x y r (fun e => h y r rfl e.symm)
  | succ k ih =>
    rw [List.replicate_succ, List.cons_append, runsOf, ih]
    simp only [if_true]
theorem runsOf_at (zs : List Int) (a b : Nat) (hab : a < b) (hb : b ≤ zs.length) (hall : ∀ j, a ≤ j → j < b → zs[j]?.getD 0 = zs[a]?.getD 0) (hend : b < zs.length → zs[b]?.getD 0 ≠ zs[a]?.getD 0) :
    runsOf (zs.drop a) = (zs[a]?.getD 0, b - a) :: runsOf (zs.drop b) := by
  have e : zs.drop a = List.replicate (b - a - 1 + 1) (zs[a]?.getD 0) ++ zs.drop b := by
    apply List.ext_getElem
    · simp; omega
    · intro i h1 h2
      simp only [List.getElem_drop]
      by_cases hi : i < b - a
      · rw [List.getElem_append_left (by simp; omega), List.getElem_replicate]
        have := hall (a + i) (by omega) (by omega)
        simp only [List.length_drop] at h1
        rw [List.getElem?_eq_getElem (by omega)] at this
        exact this
      · rw [List.getElem_append_right (by simp; omega), List.getElem_drop]
        congr 1
        simp; omega
  have e2 : b - a - 1 + 1 = b - a := by omega
  rw [e, runsOf_run _ _ _, e2]
  intro y r he hy
  have hlt : b < zs.length := by
    refine Classical.byContradiction fun hc => ?_
    rw [List.drop_of_length_le (by omega)] at he; cases he
  rw [List.drop_eq_getElem_cons hlt] at he
  injection he with h1 _
  refine hend hlt ?_
  rw [List.getElem?_eq_getElem hlt]
  show zs[b] = _
  rw [h1, hy]
theorem runsOf_length : ∀ l : List Int, (runsOf l).length ≤ l.length := by
  intro l
  induction l with
  | nil => exact Nat.le_refl _
  | cons x l ih =>
    rw [runsOf]
    split
    · simp
    · rename_i y k r he
      rw [he] at ih
      by_cases h : x = y
      · rw [if_pos h]; simp only [List.length_cons] at ih ⊢; omega
      · rw [if_neg h]; simp only [List.length_cons] at ih ⊢; omega
theorem below_drewN_ {B : Nat} {w W : World} (h : Below B w W) (n : Nat) : Below B w (W.drewN n) := ⟨h.os, h.tape, h.output, h.size, h.block⟩
theorem grown_drewN_ (W : World) (n : Nat) : W.grownBy (W.drewN n) none := ⟨rfl, rfl, rfl, Nat.le_refl _, fun _ _ _ => rfl⟩
/-- below n₀ no block but B₀ has turned -/
def Same (n₀ B₀ : Nat) (W W' : World) : Prop := ∀ k, k < n₀ → k ≠ B₀ → W'.heap[k]? = W.heap[k]?
theorem Same.refl (n₀ B₀ : Nat) (W : World) : Same n₀ B₀ W W := fun _ _ _ => rfl
theorem Same.trans {n₀ B₀ : Nat} {A B C : World} (h : Same n₀ B₀ A B) (k : Same n₀ B₀ B C) : Same n₀ B₀ A C := fun j h1 h2 => (k j h1 h2).trans (h j h1 h2)
theorem Same.drewN {n₀ B₀ : Nat} {A B : World} (h : Same n₀ B₀ A B) (m : Nat) : Same n₀ B₀ A (B.drewN m) := h
theorem Same.cell {n₀ B₀ : Nat} {A B : World} (h : Same n₀ B₀ A B) {b o : Nat} (hb : b < n₀ ∧ b ≠ B₀) : B.cell? ⟨b, o, none⟩ = A.cell? ⟨b, o, none⟩ := by
  unfold World.cell?; simp only [h b hb.1 hb.2]
/-- all from a on, below c, are as the one at a -/
def Likes (zs : List Int) (a c : Nat) : Prop := ∀ j, a ≤ j → j < c → zs[j]?.getD 0 = zs[a]?.getD 0
theorem likes_one (zs : List Int) (a : Nat) : Likes zs a (a + 1) := fun j h1 h2 => by
  have : j = a := by omega
  rw [this]
theorem likes_succ {zs : List Int} {a c : Nat} (h : Likes zs a c) (he : zs[c]?.getD 0 = zs[a]?.getD 0) : Likes zs a (c + 1) := fun j h1 h2 => by
  rcases Nat.lt_succ_iff_lt_or_eq.1 h2 with h3 | h3
  · exact h j h1 h3
  · rw [h3]; exact he
set_option maxRecDepth 100000 in
set_option maxHeartbeats 4000000 in
theorem each1_in (q : Int × Nat → Prop) (n : Nat) (hn : 1 ≤ n) (l Bs n₀ B₀ b off cap : Nat) (zs : List Int) (hq : ∀ y ∈ runsOf zs, q y) (hreach : zs.length * 8 ≤ 140737488351232) (hb : b < n₀ ∧ b ≠ B₀) (J Jx : List (Int × Nat) → World → Prop) (W : World) (hJ : AbidesFrom W.heap.size J)
    (hY : ∀ pre x W, q x → J pre W → pre.length < zs.length → YieldAt Fence.wide (n - 1) Tryd.prog l #[.int .i64 x.1, .int .i64 (x.2 : Int)] W fun e W' =>
      (e = .returned (.bool true) ∧ J (pre ++ [x]) W' ∧ Same n₀ B₀ W W') ∨ (e = .returned (.bool false) ∧ Jx (pre ++ [x]) W'))
    (hBs : (Bs < n₀ ∧ Bs ≠ B₀) ∧ W.cell? ⟨Bs, 0, none⟩ = some (.slice (some ⟨b, off, none⟩) zs.length cap)) (hc : ∀ j, j < zs.length → W.cell? ⟨b, off + j, none⟩ = some (.int .i64 (zs[j]?.getD 0))) (h0 : J [] W) :
    CallsIn Fence.wide n Tryd.prog 66 #[.func (.yield l) #[] #[], .pointer (some ⟨Bs, 0, none⟩)] W fun e W' => (∃ v, e = .returned v) ∧
      ((∃ ys, ys = runsOf zs ∧ J ys W') ∨ (∃ pre, pre <+: runsOf zs ∧ Jx pre W')) := by
  have hJd : ∀ pre W1 m, J pre W1 → J pre (W1.drewN m) := fun pre W1 m h => hJ pre _ _ none h (grown_drewN_ W1 m) (fun r e => by cases e)
  refine callsIn_of_wp Tryd.func66 rfl trivial ?_ rfl
  simp only [Tryd.ntmps66, List.size_toArray, List.length_cons, List.length_nil, Nat.reduceAdd, Nat.reduceSub, Array.replicate_succ, Array.replicate_zero, List.push_toArray, List.append_toArray, List.nil_append, List.cons_append]
  gi_wp2
  gi_loopw [3] (fun i wr => ∃ (a : Nat) (pre : List (Int × Nat)), a ≤ zs.length ∧ i = .int .i64 a ∧ runsOf zs = pre ++ runsOf (zs.drop a) ∧ J pre wr ∧ Same n₀ B₀ W wr)
    (fun i _ => zs.length - (intOf i).toNat)
  case atStart => exact ⟨0, [], Nat.zero_le _, rfl, by simp, h0, Same.refl _ _ _⟩
  case round =>
    obtain ⟨a, pre, ha, rfl, hruns, hJs, hnx⟩ := hrel
    have hBr : wr.cell? ⟨Bs, 0, none⟩ = some (.slice (some ⟨b, off, none⟩) zs.length cap) := (hnx.cell (b := Bs) (o := 0) hBs.1).trans hBs.2
    by_cases hlt : a < zs.length
    · gi_wp2
      gi_loopw [4] (fun q wq => ∃ (c : Nat), a < c ∧ c ≤ zs.length ∧ q = .int .i64 c ∧ Likes zs a c ∧ J pre wq ∧ Same n₀ B₀ W wq)
        (fun q _ => zs.length - (intOf q).toNat)
      case atStart => exact ⟨a + 1, by omega, by omega, by simp, likes_one zs a, hJs, hnx⟩
      case round =>
        obtain ⟨c, hac, hcl, rfl, hall, hJq, hnq⟩ := hrel
        have hBq : wr.cell? ⟨Bs, 0, none⟩ = some (.slice (some ⟨b, off, none⟩) zs.length cap) := (hnq.cell (b := Bs) (o := 0) hBs.1).trans hBs.2
        have hca : wr.cell? ⟨b, off + a, none⟩ = some (.int .i64 (zs[a]?.getD 0)) := (hnq.cell (b := b) (o := off + a) hb).trans (hc a hlt)
        by_cases hcz : c < zs.length
        · have hcc : wr.cell? ⟨b, off + c, none⟩ = some (.int .i64 (zs[c]?.getD 0)) := (hnq.cell (b := b) (o := off + c) hb).trans (hc c hcz)
          by_cases heq : zs[c] = zs[a]
          · have heqb : (zs[c] == zs[a]) = true := by simp [heq]
            have hlk : Likes zs a (c + 1) := likes_succ hall (by rw [List.getElem?_eq_getElem hcz, List.getElem?_eq_getElem hlt]; exact heq)
            clear heq
            gi_wp2
            refine wpIn_wide.2 ?_
            go_quiet (fail)
            gi_wp2
            exact ⟨⟨c + 1, by omega, by omega, by simp, hlk, hJd _ _ _ hJq, hnq.drewN _⟩, by simp [intOf]; omega⟩
          · have heqb : (zs[c] == zs[a]) = false := by simp [heq]
            have hrun := runsOf_at zs a c hac hcl hall (fun h => by rw [List.getElem?_eq_getElem hcz, List.getElem?_eq_getElem hlt]; exact heq)
            rw [List.getElem?_eq_getElem hlt] at hrun
            have hrun : runsOf (zs.drop a) = (zs[a], c - a) :: runsOf (zs.drop c) := hrun
            have hpl : pre.length < zs.length := by
              have := runsOf_length zs
              rw [hruns, hrun, List.length_append, List.length_cons] at this; omega
            clear heq
            gi_wp2
            refine wpIn_wide.2 ?_
            go_quiet (fail)
            obtain ⟨fn, tmps, assign, body, hy, hR⟩ := hY pre (zs[a], c - a) (wr.drewN nq) (hq _ (by rw [hruns, hrun]; simp)) (hJd _ _ _ hJq) hpl
            have ecast : ((c - a : Nat) : Int) = (c : Int) - (a : Int) := by omega
            dsimp only at hy
            rw [ecast] at hy
            gi_wp2
            refine hR.mono ?_
            rintro e W3 (⟨rfl, hJ3, hk3⟩ | ⟨rfl, hJx3⟩)
            · gi_wp2
              go_roundw
              case rel => exact ⟨c, pre ++ [(zs[a], c - a)], by omega, rfl, by rw [List.append_assoc]; rw [hruns, hrun]; rfl, hJ3, (hnq.drewN _).trans hk3⟩
              case measure => simp [intOf]; omega
            · gi_wp2
              refine bodyPost_ret (results_none rfl _ _ _) rfl ?_
              exact ⟨⟨_, rfl⟩, .inr ⟨pre ++ [(zs[a], c - a)], ⟨_, by rw [hruns, hrun, List.append_assoc]; rfl⟩, hJx3⟩⟩
        · obtain rfl : c = zs.length := by omega
          have hrun := runsOf_at zs a zs.length hac hcl hall (fun h => absurd h (by omega))
          rw [List.getElem?_eq_getElem hlt] at hrun
          have hrun : runsOf (zs.drop a) = (zs[a], zs.length - a) :: runsOf (zs.drop zs.length) := hrun
          have hpl : pre.length < zs.length := by
            have := runsOf_length zs
            rw [hruns, hrun, List.length_append, List.length_cons] at this; omega
          clear hcz
          gi_wp2
          refine wpIn_wide.2 ?_
          go_quiet (fail)
          obtain ⟨fn, tmps, assign, body, hy, hR⟩ := hY pre (zs[a], zs.length - a) (wr.drewN nq) (hq _ (by rw [hruns, hrun]; simp)) (hJd _ _ _ hJq) hpl
          have ecast : ((zs.length - a : Nat) : Int) = (zs.length : Int) - (a : Int) := by omega
          dsimp only at hy
          rw [ecast] at hy
          gi_wp2
          refine hR.mono ?_
          rintro e W3 (⟨rfl, hJ3, hk3⟩ | ⟨rfl, hJx3⟩)
          · gi_wp2
            go_roundw
            case rel => exact ⟨zs.length, pre ++ [(zs[a], zs.length - a)], by omega, rfl, by rw [List.append_assoc]; rw [hruns, hrun]; rfl, hJ3, (hnq.drewN _).trans hk3⟩
            case measure => simp [intOf]; omega
          · gi_wp2
            refine bodyPost_ret (results_none rfl _ _ _) rfl ?_
            exact ⟨⟨_, rfl⟩, .inr ⟨pre ++ [(zs[a], zs.length - a)], ⟨_, by rw [hruns, hrun, List.append_assoc]; rfl⟩, hJx3⟩⟩
    · obtain rfl : a = zs.length := by omega
      gi_wp2
      go_end0
      exact ⟨⟨_, rfl⟩, .inl ⟨_, rfl, by rw [hruns, List.drop_length] at *; simpa [runsOf] using hJs⟩⟩
/-- THE SLICE VALUE sv HOLDS THE numbers zs, in a block below n₀; or it is nil and there are none. -/
def Ints (n₀ B₀ : Nat) (W : World) (sv : Value) (zs : List Int) : Prop :=
  (zs = [] ∧ ∃ A cap, sv = .slice A 0 cap) ∨ ∃ b off cap, sv = .slice (some ⟨b, off, none⟩) zs.length cap ∧ (b < n₀ ∧ b ≠ B₀) ∧ ∀ j, j < zs.length → W.cell? ⟨b, off + j, none⟩ = some (.int .i64 (zs[j]?.getD 0))
theorem Ints.same {n₀ B₀ : Nat} {A B : World} (h : Same n₀ B₀ A B) {sv : Value} {zs : List Int} : Ints n₀ B₀ A sv zs → Ints n₀ B₀ B sv zs
  | .inl e => .inl e
  | .inr ⟨b, off, cap, e, hb, hc⟩ => .inr ⟨b, off, cap, e, hb, fun j hj => (h.cell (b := b) (o := off + j) hb).trans (hc j hj)⟩
set_option maxRecDepth 100000 in
set_option maxHeartbeats 4000000 in
theorem each1_nil_in (n : Nat) (l Bs cap : Nat) (A : Option Addr) (J : List (Int × Nat) → World → Prop) (W : World) (hBs : W.cell? ⟨Bs, 0, none⟩ = some (.slice A 0 cap)) (h0 : J [] W) :
    CallsIn Fence.wide n Tryd.prog 66 #[.func (.yield l) #[] #[], .pointer (some ⟨Bs, 0, none⟩)] W fun e W' => (∃ v, e = .returned v) ∧ J [] W' := by
  refine callsIn_of_wp Tryd.func66 rfl trivial ?_ rfl
  simp only [Tryd.ntmps66, List.size_toArray, List.length_cons, List.length_nil, Nat.reduceAdd, Nat.reduceSub, Array.replicate_succ, Array.replicate_zero, List.push_toArray, List.append_toArray, List.nil_append, List.cons_append]
  gi_wp2
  gi_loopw [3] (fun i wr => i = .int .i64 0 ∧ J [] wr ∧ wr.cell? ⟨Bs, 0, none⟩ = some (.slice A 0 cap)) (fun _ _ => 0)
  case atStart => exact ⟨rfl, h0, hBs⟩
  case round =>
    obtain ⟨rfl, hJs, hB⟩ := hrel
    gi_wp2
    go_end0
    exact ⟨⟨_, rfl⟩, hJs⟩
theorem each_in (n : Nat) (a : Option Addr) (len cap : Nat) (w : World) :
    CallsIn Fence.wide n Tryd.prog 54 #[.slice a len cap] w fun e w' => e = .returned (.func (.func 66) #[] #[.pointer (some ⟨w.heap.size, 0, none⟩)]) ∧ w' = w.alloc (.cells #[.slice a len cap] 54) := by
  refine callsIn_of_wp Tryd.func54 rfl trivial ?_ rfl
  simp only [Tryd.ntmps54, List.size_toArray, List.length_cons, List.length_nil, Nat.reduceAdd, Nat.reduceSub, Array.replicate_succ, Array.replicate_zero, List.push_toArray, List.append_toArray, List.nil_append, List.cons_append]
  gi_wp2
  go_ret
  exact ⟨rfl, rfl⟩
theorem each_stops (q : Int × Nat → Prop) (n : Nat) (hn : 1 ≤ n) (Bs n₀ B₀ : Nat) (sv : Value) (zs : List Int) (hq : ∀ y ∈ runsOf zs, q y) (hreach : zs.length * 8 ≤ 140737488351232) (w : World) (hBs : Bs < w.heap.size) (hBn : Bs < n₀ ∧ Bs ≠ B₀) (hn₀ : n₀ ≤ w.heap.size)
    (hc : w.cell? ⟨Bs, 0, none⟩ = some sv) (hI : Ints n₀ B₀ w sv zs) :
    SeqStopsK Fence.wide n Tryd.prog 66 #[.pointer (some ⟨Bs, 0, none⟩)] (fun x : { x : Int × Nat // q x } => #[Value.int .i64 x.1.1, Value.int .i64 (x.1.2 : Int)]) (Same n₀ B₀) (fun ys => ys.map Subtype.val = runsOf zs) (fun pre => pre.map Subtype.val <+: runsOf zs) zs.length w := fun l J Jx W hW hJ _ hY h0 => by
  have hc' := (hW.cell (p := ⟨Bs, 0, none⟩) hBs).trans hc
  rcases hI.same (fun k hk _ => hW.block k (Nat.lt_of_lt_of_le hk hn₀)) with ⟨rfl, A, cap, rfl⟩ | ⟨b, off, cap, rfl, hb, hcs⟩
  · exact (each1_nil_in n l Bs cap A (fun _ W' => J [] W') W hc' h0).mono fun e W' ⟨he, hj⟩ => ⟨he, .inl ⟨[], rfl, hj⟩⟩
  · refine (each1_in q n hn l Bs n₀ B₀ b off cap zs hq hreach hb (fun pre W' => ∃ p : List { x : Int × Nat // q x }, p.map Subtype.val = pre ∧ J p W') (fun pre W' => ∃ p : List { x : Int × Nat // q x }, p.map Subtype.val = pre ∧ Jx p W') W
      (fun s A B row h hg hr => by obtain ⟨p, hp, hj⟩ := h; exact ⟨p, hp, hJ p A B row hj hg hr⟩) ?_ ⟨hBn, hc'⟩ hcs ⟨[], rfl, h0⟩).mono ?_
    · intro pre x W1 hx hj hl
      obtain ⟨p, hp, hj⟩ := hj
      obtain ⟨fn, tmps, assign, body, hy, hR⟩ := hY p ⟨x, hx⟩ W1 hj (by rw [← hp, List.length_map] at hl; exact hl)
      refine ⟨fn, tmps, assign, body, hy, hR.mono ?_⟩
      rintro e W' (⟨h1, h2, h3⟩ | ⟨h1, h2⟩)
      · exact .inl ⟨h1, ⟨_, by rw [List.map_append, hp]; rfl, h2⟩, h3⟩
      · exact .inr ⟨h1, ⟨_, by rw [List.map_append, hp]; rfl, h2⟩⟩
    · rintro e W' ⟨he, ⟨ys, rfl, p, hp, hj⟩ | ⟨pre, hpre, p, hp, hj⟩⟩
      · exact ⟨he, .inl ⟨p, hp, hj⟩⟩
      · exact ⟨he, .inr ⟨p, (show p.map Subtype.val <+: runsOf zs by rw [hp]; exact hpre), hj⟩⟩
theorem rd_zs (zs : List Int) (j : Nat) : rd zs (j : Int) = zs[j]?.getD 0 := by simp [rd, List.getD]
theorem Ints.of_C {w : World} {A : Option Addr} {c : Nat} {zs : List Int} (h : (Kd.int .i64).C w A zs.length zs) (n₀ : Nat) (hn : w.heap.size ≤ n₀) : Ints n₀ n₀ w (.slice A zs.length c) zs := by
  by_cases hz : zs = []
  · subst hz; exact .inl ⟨rfl, _, _, rfl⟩
  · have hp : 0 < zs.length := List.length_pos_iff.2 hz
    obtain ⟨ad, rfl, h0⟩ := Kd.at_int h 0 (by omega) (by omega)
    have hb := Go.block_lt_of_cell h0
    have had : ad = ⟨ad.block, ad.off, none⟩ := by
      cases ad with
      | mk b o s =>
        cases s with
        | none => rfl
        | some s => exact absurd h0 (by unfold World.cell? Addr.add; simp; split <;> simp)
    have hbk : ad.block < w.heap.size := by
      have : (ad.add (0 : Int).toNat).block = ad.block := by unfold Addr.add; split <;> rfl
      rw [this] at hb; exact hb
    refine .inr ⟨ad.block, ad.off, c, by rw [← had], ⟨by omega, by omega⟩, fun j hj => ?_⟩
    obtain ⟨ad', e, hj'⟩ := Kd.at_int h (j : Int) (by omega) (by omega)
    cases e
    rw [had] at hj'
    have e2 : (⟨ad.block, ad.off, none⟩ : Addr).add ((j : Int).toNat) = ⟨ad.block, ad.off + j, none⟩ := by
      unfold Addr.add; split
      · rename_i h0; simp at h0; subst h0; rfl
      · simp
    rw [e2, rd_zs] at hj'
    exact hj'
end

end Go.Proofs.YtjmhfbgpebgcmaaDoor.PRunsBack
