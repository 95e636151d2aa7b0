/- WRITTEN BY A PROGRAM of this session (wip/tool: a turned copy of the printer), out of the translation: Lean functions with the answers of the Go functions, and the proofs that the Go code comes to them. -/
import Derived.Test.YtieddojplhmhgaaDoorPTextsGetsx0
import Derived.Test.YtieddojplhmhgaaDoorPTextsGetsx3
namespace Go.Proofs.YtieddojplhmhgaaDoor.PTextsGets
open Go.RowKit Go.Proofs.YtieddojplhmhgaaDoorW.PrintWords Go.Proofs.YtieddojplhmhgaaDoorW.PrintLast Go.Proofs.YtieddojplhmhgaaDoorW.PrintMore
attribute [local go_sem] max2_int min2_int max_two min_two max_three min_three max_four min_four   -- for this text's walks alone
set_option linter.unusedVariables false
set_option linter.unusedSimpArgs false

/-! ### num_short: function 72 -/
mutual
def num_short.l0 : Nat → List Int → Int → Int → Int → Option (Int × Int × Int)
  | 0, _, _, _, _ => none
  | k + 1, x0, x2, x3, x5 => if x3 = (x0.length : Int) then (some (0, 0, 2)) else (if 0 ≤ x3 then (if x3 < (x0.length : Int) then (if x5 ≥ 64 then (num_short.j1 k x0 x2 (wrap64 (x3 + 1)) x5 (rd x0 x3) (IntKind.u64.wrap (Go.bits .and .u8 (rd x0 x3) 127)) (decide (x5 ≥ 64))) else (if (wrap64 (x5 + 7)) > 64 then (if 0 ≤ (IntKind.u64.wrap (wrap64 (64 - x5))) then (num_short.j1 k x0 x2 (wrap64 (x3 + 1)) x5 (rd x0 x3) (IntKind.u64.wrap (Go.bits .and .u8 (rd x0 x3) 127)) ((shr .u64 (IntKind.u64.wrap (Go.bits .and .u8 (rd x0 x3) 127)) (IntKind.u64.wrap (wrap64 (64 - x5)))) != 0)) else (none)) else (num_short.j1 k x0 x2 (wrap64 (x3 + 1)) x5 (rd x0 x3) (IntKind.u64.wrap (Go.bits .and .u8 (rd x0 x3) 127)) false))) else (none)) else (none))
def num_short.j1 : Nat → List Int → Int → Int → Int → Int → Int → Bool → Option (Int × Int × Int)
  | 0, _, _, _, _, _, _, _ => none
  | k + 1, x0, x2, x3, x5, x6, x7, x29 => if x29 = true then (some (0, 0, 4)) else (if x6 = 0 then (num_short.j2 k x0 x2 x3 x5 x6 x7 (decide (x3 > 1))) else (num_short.j2 k x0 x2 x3 x5 x6 x7 false))
def num_short.j2 : Nat → List Int → Int → Int → Int → Int → Int → Bool → Option (Int × Int × Int)
  | 0, _, _, _, _, _, _, _ => none
  | k + 1, x0, x2, x3, x5, x6, x7, x43 => if x43 = true then (some (0, 0, 4)) else (if 0 ≤ (IntKind.u64.wrap (x5)) then (if (Go.bits .and .u8 x6 128) = 0 then (some (Go.bits .or .u64 x2 (shl .u64 x7 (IntKind.u64.wrap (x5))), x3, 0)) else (num_short.l0 k x0 (Go.bits .or .u64 x2 (shl .u64 x7 (IntKind.u64.wrap (x5)))) x3 (wrap64 (x5 + 7)))) else (none))
end
def num_short.f (k : Nat) (l0 : List Int) : Option (Int × Int × Int) := num_short.l0 k l0 0 0 0
set_option maxHeartbeats 8000000 in
set_option maxRecDepth 100000 in
theorem num_short.calls (k : Nat) (A0 : Option Addr) (c0 : Nat) (l0 : List Int) (r1 : Int) (r2 : Int) (r3 : Int) (w : World) (hr0 : Kd.C (Kd.int .u8) w A0 l0.length l0) (hc0 : l0.length ≤ c0) (h : num_short.f k l0 = some (r1, r2, r3)) :
    Calls Tryd.prog 72 #[.slice A0 l0.length c0] w fun e w' => e = .returned (.tuple #[.int .u64 r1, .int .i64 r2, .int .i64 r3]) ∧ Drawn0 w w' := by
  have HR0 := Aside0.mk hr0
  have HC0 := Aside0.mk hc0
  clear hr0 hc0
  have H : (num_short.l0 k l0 0 0 0) = some (r1, r2, r3) := h
  clear h
  have H' := Aside0.mk H
  clear H
  go_enter Tryd.func72, Tryd.ntmps72
  go_wp2
  go_loopg [2, 3, 5] k (fun kq v2 v3 v5 w' => ∃ (x2_1 : Int) (x3_1 : Int) (x5_1 : Int), v2 = .int .u64 x2_1 ∧ v3 = .int .i64 x3_1 ∧ v5 = .int .i64 x5_1 ∧ Aside0 (num_short.l0 kq l0 x2_1 x3_1 x5_1 = some (r1, r2, r3)) ∧ Aside0 (kq ≤ k) ∧ Drawn0 w w')
  case atStart => exact ⟨(0), (0), (0), (by first | rfl | (simp; done) | (simp [*]; done)), (by first | rfl | (simp; done) | (simp [*]; done)), (by first | rfl | (simp; done) | (simp [*]; done)), H', ⟨Nat.le_refl _⟩, by repeat (first | exact Drawn0.refl _ | apply Drawn0.step)⟩
  case round =>
    clear H'
    obtain ⟨x2_1, x3_1, x5_1, rfl, rfl, rfl, HA, HK1, ⟨m1, rfl⟩⟩ := hrel
    cases gk with
    | zero => exact absurd HA.out (by simp [num_short.l0])
    | succ k1 =>
      have H := HA.out
      clear HA
      simp only [num_short.l0] at H
      by_cases c2 : x3_1 = (l0.length : Int)
      · rw [if_pos c2] at H
        have c2b0 : (x3_1 == (l0.length : Int)) = true := beq_iff_eq.mpr c2
        have c2b1 : (x3_1 != (l0.length : Int)) = false := bne_eq_false_iff_eq.mpr c2
        clear c2
        simp only [Option.some.injEq, Prod.mk.injEq] at H
        obtain ⟨rfl, rfl, rfl⟩ := H
        go_wp2
        go_ret3
        exact ⟨by first | rfl | (simp; done) | (simp [*]; done), by repeat (first | exact Drawn0.refl _ | apply Drawn0.step)⟩
      · rw [if_neg c2] at H
        have c2b0 : (x3_1 == (l0.length : Int)) = false := beq_eq_false_iff_ne.mpr c2
        have c2b1 : (x3_1 != (l0.length : Int)) = true := bne_iff_ne.mpr c2
        by_cases c3 : 0 ≤ x3_1
        · rw [if_pos c3] at H
          have c3b0 : decide (0 ≤ x3_1) = true := decide_eq_true c3
          clear c3
          by_cases c4 : x3_1 < (l0.length : Int)
          · rw [if_pos c4] at H
            have c4b0 : decide (x3_1 < (l0.length : Int)) = true := decide_eq_true c4
            clear c4
            have HC5 := Aside0.mk H
            clear H
            have p228 : 0 ≤ (x3_1 : Int) := of_decide_eq_true (by first | (with_reducible assumption) | assumption)
            have q228 : x3_1 < (l0.length : Int) := of_decide_eq_true (by first | (with_reducible assumption) | assumption)
            obtain ⟨ad228, e228, hx228_0⟩ := Kd.at_int HR0.out x3_1 p228 q228
            cases e228
            replace p228 := eq_true p228
            replace q228 := eq_true q228
            go_upto_if 29 with (fail)
            go_cut [29] (fun v29 wc => ∃ (kq : Nat) (x29_4 : Bool), v29 = .bool x29_4 ∧ Aside0 (num_short.j1 kq l0 x2_1 (wrap64 (x3_1 + 1)) x5_1 (rd l0 x3_1) (IntKind.u64.wrap (Go.bits .and .u8 (rd l0 x3_1) 127)) x29_4 = some (r1, r2, r3)) ∧ Aside0 (kq ≤ k1) ∧ Drawn0 w wc)
            case first =>
              have H := HC5.out
              clear HC5
              by_cases c6 : x5_1 ≥ 64
              · rw [if_pos c6] at H
                have c6b0 : decide (64 ≤ x5_1) = true := decide_eq_true c6
                clear c6
                (first | rw [c6b0] | (simp only [i64_w, i32_w]; rw [c6b0]) | skip)
                have H' := Aside0.mk H
                clear H
                go_wp2
                go_meet
                case rel => exact ⟨_, (decide (x5_1 ≥ 64)), (by first | rfl | (simp; done) | (simp [*]; done)), H', ⟨by have := HK1.out; first | omega | exact Nat.le_refl _⟩, by repeat (first | exact Drawn0.refl _ | apply Drawn0.step)⟩
              · rw [if_neg c6] at H
                have c6b0 : decide (64 ≤ x5_1) = false := decide_eq_false c6
                clear c6
                (first | rw [c6b0] | (simp only [i64_w, i32_w]; rw [c6b0]) | skip)
                by_cases c7 : (wrap64 (x5_1 + 7)) > 64
                · rw [if_pos c7] at H
                  have c7b0 : decide (64 < (wrap64 (x5_1 + 7))) = true := decide_eq_true c7
                  clear c7
                  obtain ⟨ji8, hji8⟩ : ∃ j_ : Int, (IntKind.u64.wrap (wrap64 (64 - x5_1))) = j_ := ⟨_, rfl⟩
                  replace H : (if 0 ≤ (ji8) then (num_short.j1 k1 l0 x2_1 (wrap64 (x3_1 + 1)) x5_1 (rd l0 x3_1) (IntKind.u64.wrap (Go.bits .and .u8 (rd l0 x3_1) 127)) ((shr .u64 (IntKind.u64.wrap (Go.bits .and .u8 (rd l0 x3_1) 127)) (ji8)) != 0)) else (none)) = some (r1, r2, r3) := by first | (rw [hji8] at H; exact H) | (simp only [hji8] at H ⊢; exact H)
                  by_cases c9 : 0 ≤ (ji8)
                  · rw [if_pos c9] at H
                    have c9b0 := eq_true c9
                    have c9b1 : decide (0 ≤ (ji8)) = true := decide_eq_true c9
                    clear c9
                    obtain ⟨ji10, hji10⟩ : ∃ j_ : Int, (shr .u64 (IntKind.u64.wrap (Go.bits .and .u8 (rd l0 x3_1) 127)) (ji8)) = j_ := ⟨_, rfl⟩
                    replace H : (num_short.j1 k1 l0 x2_1 (wrap64 (x3_1 + 1)) x5_1 (rd l0 x3_1) (IntKind.u64.wrap (Go.bits .and .u8 (rd l0 x3_1) 127)) ((ji10) != 0)) = some (r1, r2, r3) := by first | (rw [hji10] at H; exact H) | (simp only [hji10] at H ⊢; exact H)
                    have hji10_ : ((IntKind.u64.wrap (Go.bits .and .u8 (rd l0 x3_1) 127)) / 2 ^ min (ji8).toNat 64) = ji10 := hji10
                    have hji10z : (ji8) ≤ 64 → ((IntKind.u64.wrap (Go.bits .and .u8 (rd l0 x3_1) 127)) / 2 ^ (ji8).toNat) = ji10 := shr_small hji10
                    have H' := Aside0.mk H
                    clear H
                    go_wp2
                    go_meet
                    case rel => exact ⟨_, (((ji10) != 0)), (by first | rfl | (simp; done) | (simp only [← hji10] <;> (first | rfl | simp)) | (simp [*]; done)), H', ⟨by have := HK1.out; first | omega | exact Nat.le_refl _⟩, by repeat (first | exact Drawn0.refl _ | apply Drawn0.step)⟩
                  · rw [if_neg c9] at H
                    exact absurd H (by simp)
                · rw [if_neg c7] at H
                  have c7b0 : decide (64 < (wrap64 (x5_1 + 7))) = false := decide_eq_false c7
                  clear c7
                  have H' := Aside0.mk H
                  clear H
                  go_wp2
                  go_meet
                  case rel => exact ⟨_, (false), (by first | rfl | (simp; done) | (simp [*]; done)), H', ⟨by have := HK1.out; first | omega | exact Nat.le_refl _⟩, by repeat (first | exact Drawn0.refl _ | apply Drawn0.step)⟩
            case rest =>
              clear HC5
              try clear c2
              try clear c2b0
              try clear c2b1
              try clear p2
              try clear q2
              try clear hx2
              try clear c3
              try clear c3b0
              try clear c4
              try clear c4b0
              try clear c6
              try clear c6b0
              try clear p6
              try clear c7
              try clear c7b0
              try clear c9
              try clear c9b0
              try clear c9b1
              try clear hx228_0
              try clear p228
              try clear q228
              obtain ⟨kq, x29_4, rfl, HA, HJ4, ⟨mc4, rfl⟩⟩ := hcut
              cases kq with
              | zero => exact absurd HA.out (by simp [num_short.j1])
              | succ kj4 =>
                have H := HA.out
                clear HA
                simp only [num_short.j1] at H
                by_cases c11 : x29_4 = true
                · subst c11
                  have H1 : (some (0, 0, 4)) = some (r1, r2, r3) := by rw [if_pos rfl] at H; exact H
                  clear H
                  have H := H1
                  clear H1
                  simp only [Option.some.injEq, Prod.mk.injEq] at H
                  obtain ⟨rfl, rfl, rfl⟩ := H
                  go_wp2
                  go_ret3
                  exact ⟨by first | rfl | (simp; done) | (simp [*]; done), by repeat (first | exact Drawn0.refl _ | apply Drawn0.step)⟩
                · replace c11 := Bool.eq_false_iff.mpr c11
                  subst c11
                  have H1 : (if (rd l0 x3_1) = 0 then (num_short.j2 kj4 l0 x2_1 (wrap64 (x3_1 + 1)) x5_1 (rd l0 x3_1) (IntKind.u64.wrap (Go.bits .and .u8 (rd l0 x3_1) 127)) (decide ((wrap64 (x3_1 + 1)) > 1))) else (num_short.j2 kj4 l0 x2_1 (wrap64 (x3_1 + 1)) x5_1 (rd l0 x3_1) (IntKind.u64.wrap (Go.bits .and .u8 (rd l0 x3_1) 127)) false)) = some (r1, r2, r3) := by rw [if_neg (show ¬ (false = true) by decide)] at H; exact H
                  clear H
                  have H := H1
                  clear H1
                  have HC12 := Aside0.mk H
                  clear H
                  go_upto_region 12 with (fail)
                  go_cut [43] (fun v43 wc => ∃ (kq : Nat) (x43_11 : Bool), v43 = .bool x43_11 ∧ Aside0 (num_short.j2 kq l0 x2_1 (wrap64 (x3_1 + 1)) x5_1 (rd l0 x3_1) (IntKind.u64.wrap (Go.bits .and .u8 (rd l0 x3_1) 127)) x43_11 = some (r1, r2, r3)) ∧ Aside0 (kq ≤ kj4) ∧ Drawn0 w wc)
                  case first =>
                    have H := HC12.out
                    clear HC12
                    by_cases c13 : (rd l0 x3_1) = 0
                    · rw [if_pos c13] at H
                      have c13b0 : ((rd l0 x3_1) == 0) = true := beq_iff_eq.mpr c13
                      have c13b1 : ((rd l0 x3_1) != 0) = false := bne_eq_false_iff_eq.mpr c13
                      clear c13
                      (first | rw [c13b0] | (simp only [i64_w, i32_w]; rw [c13b0]) | skip)
                      have H' := Aside0.mk H
                      clear H
                      go_wp2
                      go_meet
                      case rel => exact ⟨_, (decide ((wrap64 (x3_1 + 1)) > 1)), (by first | rfl | (simp; done) | (simp [*]; done)), H', ⟨by have := HK1.out; have := HJ4.out; first | omega | exact Nat.le_refl _⟩, by repeat (first | exact Drawn0.refl _ | apply Drawn0.step)⟩
                    · rw [if_neg c13] at H
                      have c13b0 : ((rd l0 x3_1) == 0) = false := beq_eq_false_iff_ne.mpr c13
                      have c13b1 : ((rd l0 x3_1) != 0) = true := bne_iff_ne.mpr c13
                      (first | rw [c13b0] | (simp only [i64_w, i32_w]; rw [c13b0]) | skip)
                      have H' := Aside0.mk H
                      clear H
                      go_wp2
                      go_meet
                      case rel => exact ⟨_, (false), (by first | rfl | (simp; done) | (simp [*]; done)), H', ⟨by have := HK1.out; have := HJ4.out; first | omega | exact Nat.le_refl _⟩, by repeat (first | exact Drawn0.refl _ | apply Drawn0.step)⟩
                  case rest =>
                    clear HC12
                    try clear c1
                    try clear c2
                    try clear c2b0
                    try clear c2b1
                    try clear p2
                    try clear q2
                    try clear hx2
                    try clear c3
                    try clear c3b0
                    try clear c4
                    try clear c4b0
                    try clear c6
                    try clear c6b0
                    try clear p6
                    try clear c7
                    try clear c7b0
                    try clear c9
                    try clear c9b0
                    try clear c9b1
                    try clear c11
                    try clear c13
                    try clear c13b0
                    try clear c13b1
                    try clear hx228_0
                    try clear p2
                    try clear p228
                    try clear p6
                    try clear q2
                    try clear q228
                    obtain ⟨kq, x43_11, rfl, HA, HJ11, ⟨mc11, rfl⟩⟩ := hcut
                    cases kq with
                    | zero => exact absurd HA.out (by simp [num_short.j2])
                    | succ kj11 =>
                      have H := HA.out
                      clear HA
                      simp only [num_short.j2] at H
                      by_cases c14 : x43_11 = true
                      · subst c14
                        have H1 : (some (0, 0, 4)) = some (r1, r2, r3) := by rw [if_pos rfl] at H; exact H
                        clear H
                        have H := H1
                        clear H1
                        simp only [Option.some.injEq, Prod.mk.injEq] at H
                        obtain ⟨rfl, rfl, rfl⟩ := H
                        go_wp2
                        go_ret3
                        exact ⟨by first | rfl | (simp; done) | (simp [*]; done), by repeat (first | exact Drawn0.refl _ | apply Drawn0.step)⟩
                      · replace c14 := Bool.eq_false_iff.mpr c14
                        subst c14
                        have H1 : (if 0 ≤ (IntKind.u64.wrap (x5_1)) then (if (Go.bits .and .u8 (rd l0 x3_1) 128) = 0 then (some (Go.bits .or .u64 x2_1 (shl .u64 (IntKind.u64.wrap (Go.bits .and .u8 (rd l0 x3_1) 127)) (IntKind.u64.wrap (x5_1))), (wrap64 (x3_1 + 1)), 0)) else (num_short.l0 kj11 l0 (Go.bits .or .u64 x2_1 (shl .u64 (IntKind.u64.wrap (Go.bits .and .u8 (rd l0 x3_1) 127)) (IntKind.u64.wrap (x5_1)))) (wrap64 (x3_1 + 1)) (wrap64 (x5_1 + 7)))) else (none)) = some (r1, r2, r3) := by rw [if_neg (show ¬ (false = true) by decide)] at H; exact H
                        clear H
                        have H := H1
                        clear H1
                        obtain ⟨ji15, hji15⟩ : ∃ j_ : Int, (IntKind.u64.wrap (x5_1)) = j_ := ⟨_, rfl⟩
                        replace H : (if 0 ≤ (ji15) then (if (Go.bits .and .u8 (rd l0 x3_1) 128) = 0 then (some (Go.bits .or .u64 x2_1 (shl .u64 (IntKind.u64.wrap (Go.bits .and .u8 (rd l0 x3_1) 127)) (ji15)), (wrap64 (x3_1 + 1)), 0)) else (num_short.l0 kj11 l0 (Go.bits .or .u64 x2_1 (shl .u64 (IntKind.u64.wrap (Go.bits .and .u8 (rd l0 x3_1) 127)) (ji15))) (wrap64 (x3_1 + 1)) (wrap64 (x5_1 + 7)))) else (none)) = some (r1, r2, r3) := by first | (rw [hji15] at H; exact H) | (simp only [hji15] at H ⊢; exact H)
                        by_cases c16 : 0 ≤ (ji15)
                        · rw [if_pos c16] at H
                          have c16b0 := eq_true c16
                          have c16b1 : decide (0 ≤ (ji15)) = true := decide_eq_true c16
                          clear c16
                          obtain ⟨ji17, hji17⟩ : ∃ j_ : Int, (shl .u64 (IntKind.u64.wrap (Go.bits .and .u8 (rd l0 x3_1) 127)) (ji15)) = j_ := ⟨_, rfl⟩
                          replace H : (if (Go.bits .and .u8 (rd l0 x3_1) 128) = 0 then (some (Go.bits .or .u64 x2_1 (ji17), (wrap64 (x3_1 + 1)), 0)) else (num_short.l0 kj11 l0 (Go.bits .or .u64 x2_1 (ji17)) (wrap64 (x3_1 + 1)) (wrap64 (x5_1 + 7)))) = some (r1, r2, r3) := by first | (rw [hji17] at H; exact H) | (simp only [hji17] at H ⊢; exact H)
                          have hji17_ : (IntKind.u64.wrap ((IntKind.u64.wrap (Go.bits .and .u8 (rd l0 x3_1) 127)) * 2 ^ min (ji15).toNat 64)) = ji17 := hji17
                          have hji17z : (ji15) ≤ 64 → (IntKind.u64.wrap ((IntKind.u64.wrap (Go.bits .and .u8 (rd l0 x3_1) 127)) * 2 ^ (ji15).toNat)) = ji17 := shl_small hji17
                          by_cases c18 : (Go.bits .and .u8 (rd l0 x3_1) 128) = 0
                          · rw [if_pos c18] at H
                            have c18b0 : ((Go.bits .and .u8 (rd l0 x3_1) 128) == 0) = true := beq_iff_eq.mpr c18
                            have c18b1 : ((Go.bits .and .u8 (rd l0 x3_1) 128) != 0) = false := bne_eq_false_iff_eq.mpr c18
                            clear c18
                            simp only [Option.some.injEq, Prod.mk.injEq] at H
                            obtain ⟨rfl, rfl, rfl⟩ := H
                            go_wp2
                            go_ret3
                            exact ⟨by first | rfl | (simp; done) | (simp only [← hji15, ← hji17] <;> (first | rfl | simp)) | (simp [*]; done), by repeat (first | exact Drawn0.refl _ | apply Drawn0.step)⟩
                          · rw [if_neg c18] at H
                            have c18b0 : ((Go.bits .and .u8 (rd l0 x3_1) 128) == 0) = false := beq_eq_false_iff_ne.mpr c18
                            have c18b1 : ((Go.bits .and .u8 (rd l0 x3_1) 128) != 0) = true := bne_iff_ne.mpr c18
                            have H' := Aside0.mk H
                            clear H
                            go_wp2
                            go_roundg kj11
                            case measure => have := HK1.out; have := HJ4.out; have := HJ11.out; omega
                            case rel => exact ⟨(Go.bits .or .u64 x2_1 (ji17)), ((wrap64 (x3_1 + 1))), (wrap64 (x5_1 + 7)), (by first | rfl | (simp; done) | (simp only [← hji17] <;> (first | rfl | simp)) | (simp [*]; done)), (by first | rfl | (simp; done) | (simp [*]; done)), (by first | rfl | (simp; done) | (simp [*]; done)), H', ⟨by have := HK1.out; have := HJ4.out; have := HJ11.out; omega⟩, by repeat (first | exact Drawn0.refl _ | apply Drawn0.step)⟩
                        · rw [if_neg c16] at H
                          exact absurd H (by simp)
          · rw [if_neg c4] at H
            exact absurd H (by simp)
        · rw [if_neg c3] at H
          exact absurd H (by simp)

/-! ### num_Reader_Var: function 36 -/
def num_Reader_Var.f (k : Nat) (s0_0 : List Int) (s0_1 : Int) (s0_2 : Int) (s0_3 : Int) : Option (Int × Int × Int × Int) :=
  if s0_2 ≠ 0 then some (0, s0_1, s0_2, s0_3)
  else if 0 ≤ s0_1 ∧ s0_1 ≤ (s0_0.length : Int) then
    (num_short.f k (s0_0.drop s0_1.toNat)).bind fun t => (num_Reader_Fail.f s0_0 s0_1 s0_2 s0_3 t.2.2).bind fun u => some (t.1, wrap64 (u.1 + t.2.1), u.2.1, u.2.2)
  else none
set_option maxRecDepth 100000 in
set_option maxHeartbeats 8000000 in
theorem num_Reader_Var.calls (k : Nat) (g : Nat) (s0_0 : List Int) (s0_1 : Int) (s0_2 : Int) (s0_3 : Int) (r1 : Int) (r2 : Int) (r3 : Int) (r4 : Int) (w0 w : World) (hI : IsS87 w0 w g s0_0 s0_1 s0_2 s0_3) (hB : Below w0.heap.size w0 w) (h : num_Reader_Var.f k s0_0 s0_1 s0_2 s0_3 = some (r1, r2, r3, r4)) :
    Calls Tryd.prog 36 #[.pointer (some ⟨g, 0, none⟩)] w fun e w' => e = .returned (.int .u64 r1) ∧ IsS87 w0 w' g s0_0 r2 r3 r4 ∧ Below w0.heap.size w0 w' ∧ KeepBut w w' g none := by
  unfold num_Reader_Var.f at h
  have hI0 := hI
  obtain ⟨A1, c1, ev, hb, hc0, hc1, hc2, hfz, hr, hf⟩ := hI.open
  have hg := hI.ge
  by_cases h0 : s0_2 ≠ 0
  · rw [if_pos h0] at h
    simp only [Option.some.injEq, Prod.mk.injEq] at h
    obtain ⟨rfl, rfl, rfl, rfl⟩ := h
    have d0 : decide (s0_2 = 0) = false := decide_eq_false h0
    go_enter Tryd.func36, Tryd.ntmps36
    go_wp2_with (go_at_call 71; refine (num_Reader_ok.walk g _ _ _ _ w0 _ hI0).mono ?_; rintro e w' ⟨he, rfl⟩; rw [d0] at he; subst he)
    go_ret
    exact ⟨rfl, hI0, hB, KeepBut.refl _ _ _⟩
  rw [if_neg h0] at h
  by_cases hb0 : 0 ≤ s0_1 ∧ s0_1 ≤ (s0_0.length : Int)
  case neg => rw [if_neg hb0] at h; cases h
  rw [if_pos hb0] at h
  obtain ⟨⟨t1, t2, t3⟩, ht, h⟩ := Option.bind_eq_some_iff.mp h
  obtain ⟨⟨u1, u2, u3⟩, hu, h⟩ := Option.bind_eq_some_iff.mp h
  simp only [Option.some.injEq, Prod.mk.injEq] at h
  obtain ⟨rfl, rfl, rfl, rfl⟩ := h
  obtain ⟨hb1, hb2⟩ := hb0
  have h0 : s0_2 = 0 := by simpa using h0
  have d0 : decide (s0_2 = 0) = true := decide_eq_true h0
  obtain ⟨_, hcc, hC⟩ := Kd.R_reads' hr
  have hmid := Kd.C_drop (m := s0_1.toNat) hC (by omega) hcc
  have hmid : (Kd.int .u8).C w (if c1 = s0_1.toNat then A1 else A1.map (fun x => x.add s0_1.toNat)) (s0_0.drop s0_1.toNat).length (s0_0.drop s0_1.toNat) := by simpa [Kd.int, Kd.scalar] using hmid
  have hst : s0_0.length - s0_1.toNat = (s0_0.drop s0_1.toNat).length := by rw [List.length_drop]
  have hle : (s0_0.drop s0_1.toNat).length ≤ c1 - s0_1.toNat := by omega
  have hl5 : s0_1 ≤ (c1 : Int) := by omega
  have hKC : (Kd.int .u8).C w.drew (if c1 = s0_1.toNat then A1 else A1.map (fun x => x.add s0_1.toNat)) (s0_0.drop s0_1.toNat).length (s0_0.drop s0_1.toNat) := Kd.C_below hmid (below_drew1 (Below.refl _ _))
  have hLK := fun (A0 : Option Addr) (c0 : Nat) (W : World) h1 h2 => num_short.calls k A0 c0 (s0_0.drop s0_1.toNat) t1 t2 t3 W h1 h2 ht
  generalize hL : s0_0.drop s0_1.toNat = l1 at *
  clear hmid hL ht hC hr hf hb
  by_cases hcs : c1 = s0_1.toNat
  case' pos => rw [if_pos hcs] at hKC; subst hcs
  case' neg => rw [if_neg hcs] at hKC
  all_goals
    go_enter Tryd.func36, Tryd.ntmps36
    go_wp2_with (go_at_call 71; refine (num_Reader_ok.walk g _ _ _ _ w0 _ hI0).mono ?_; rintro e w' ⟨he, rfl⟩; rw [d0] at he; subst he)
    go_region_with (go_at_call 72; refine (hLK _ _ _ hKC (by omega)).mono ?_; rintro e w2 ⟨rfl, ⟨m, rfl⟩⟩)
    all_goals
      go_wp2_with (go_at_call 38; refine (num_Reader_Fail.calls g _ _ _ _ t3 u1 u2 u3 w0 _ (by repeat (first | exact hI0 | apply IsS87.drewN | apply IsS87.drew)) (by repeat (first | exact hB | apply pw_below_drewN | apply below_drew1)) hu).mono ?_; rintro e w3 ⟨rfl, hI3, hB3, hK3⟩; obtain ⟨A3, c3, ev3, hb3, hc30, hc31, hc32, hfz3, _, _⟩ := hI3.open)
      go_ret
      exact ⟨rfl, hI3.set_1 _, hB3.setCell (p := ⟨g, 1, none⟩) hg _, KeepBut.set_ (KeepBut.trans (by repeat (first | exact KeepBut.refl _ _ _ | apply keep_drewN | apply keep_drew)) hK3 (.inl rfl)) _ _⟩

/-! ### num_Reader_Blob: function 87 -/
def num_Reader_Blob.f (k : Nat) (s0_0 : List Int) (s0_1 : Int) (s0_2 : Int) (s0_3 : Int) (a1 : Int) : Option (List Int × Int × Int × Int) :=
  if s0_2 ≠ 0 then some ([], s0_1, s0_2, s0_3)
  else if 0 ≤ s0_1 ∧ s0_1 ≤ (s0_0.length : Int) ∧ (s0_0.length : Int) ≤ 140737488355328 then
    (num_short.f k (s0_0.drop s0_1.toNat)).bind fun t =>
      if t.2.2 ≠ 0 then some ([], s0_1, t.2.2, s0_1)
      else if 0 ≤ t.2.1 ∧ s0_1 + t.2.1 ≤ (s0_0.length : Int) ∧ 0 ≤ t.1 ∧ t.1 < 18446744073709551616 then
        if a1 < 0 ∨ IntKind.u64.wrap a1 < t.1 then some ([], s0_1, 12, s0_1)
        else if (s0_0.length : Int) - s0_1 - t.2.1 < t.1 then some ([], s0_1, 2, s0_1)
        else num_Reader_Take.f s0_0 (s0_1 + t.2.1) 0 s0_3 t.1
      else none
  else none
set_option maxRecDepth 100000 in
set_option maxHeartbeats 16000000 in
theorem num_Reader_Blob.calls (k : Nat) (g : Nat) (s0_0 : List Int) (s0_1 : Int) (s0_2 : Int) (s0_3 : Int) (a1 : Int) (r1 : List Int) (r2 r3 r4 : Int) (w0 w : World) (hI : IsS87 w0 w g s0_0 s0_1 s0_2 s0_3) (hB : Below w0.heap.size w0 w) (h : num_Reader_Blob.f k s0_0 s0_1 s0_2 s0_3 a1 = some (r1, r2, r3, r4)) :
    Calls Tryd.prog 87 #[.pointer (some ⟨g, 0, none⟩), .int .i64 a1] w fun e w' => ∃ v0_ : Value, e = .returned v0_ ∧ (Kd.int .u8).R 5 w' w.heap.size (fun _ => True) v0_ r1 ∧ IsS87 w0 w' g s0_0 r2 r3 r4 ∧ Below w0.heap.size w0 w' ∧ KeepBut w w' g none := by
  unfold num_Reader_Blob.f at h
  have hI0 := hI
  obtain ⟨A1, c1, ev, hb, hc0, hc1, hc2, hfz, hr, hf⟩ := hI.open
  have hg := hI.ge
  by_cases h0 : s0_2 ≠ 0
  · rw [if_pos h0] at h
    simp only [Option.some.injEq, Prod.mk.injEq] at h
    obtain ⟨rfl, rfl, rfl, rfl⟩ := h
    have d0 : decide (s0_2 = 0) = false := decide_eq_false h0
    go_enter Tryd.func87, Tryd.ntmps87
    go_wp2_with (go_at_call 71; refine (num_Reader_ok.walk g _ _ _ _ w0 _ hI0).mono ?_; rintro e w' ⟨he, rfl⟩; rw [d0] at he; subst he)
    go_ret
    exact ⟨_, rfl, Kd.R_nil _ _ _ _ _, hI0, hB, KeepBut.refl _ _ _⟩
  rw [if_neg h0] at h
  by_cases hb0 : 0 ≤ s0_1 ∧ s0_1 ≤ (s0_0.length : Int) ∧ (s0_0.length : Int) ≤ 140737488355328
  case neg => rw [if_neg hb0] at h; cases h
  rw [if_pos hb0] at h
  obtain ⟨⟨t1, t2, t3⟩, ht, hh⟩ := Option.bind_eq_some_iff.mp h
  clear h
  have h := hh
  clear hh
  dsimp only at h
  obtain ⟨hb1, hb2, hb3⟩ := hb0
  have h0 : s0_2 = 0 := by simpa using h0
  have d0 : decide (s0_2 = 0) = true := decide_eq_true h0
  obtain ⟨_, hcc, hC⟩ := Kd.R_reads' hr
  have hmid := Kd.C_drop (m := s0_1.toNat) hC (by omega) hcc
  have hmid : (Kd.int .u8).C w (if c1 = s0_1.toNat then A1 else A1.map (fun x => x.add s0_1.toNat)) (s0_0.drop s0_1.toNat).length (s0_0.drop s0_1.toNat) := by simpa [Kd.int, Kd.scalar] using hmid
  have hst : s0_0.length - s0_1.toNat = (s0_0.drop s0_1.toNat).length := by rw [List.length_drop]
  have hle : (s0_0.drop s0_1.toNat).length ≤ c1 - s0_1.toNat := by omega
  have hl5 : s0_1 ≤ (c1 : Int) := by omega
  have hKC : (Kd.int .u8).C w.drew (if c1 = s0_1.toNat then A1 else A1.map (fun x => x.add s0_1.toNat)) (s0_0.drop s0_1.toNat).length (s0_0.drop s0_1.toNat) := Kd.C_below hmid (below_drew1 (Below.refl _ _))
  have hLK := fun (A0 : Option Addr) (c0 : Nat) (W : World) h1 h2 => num_short.calls k A0 c0 (s0_0.drop s0_1.toNat) t1 t2 t3 W h1 h2 ht
  generalize hL : s0_0.drop s0_1.toNat = l1 at *
  clear hmid hL ht hC hr hf hb
  have hw : wrap64 ((s0_0.length : Int) - s0_1) = (s0_0.length : Int) - s0_1 := by unfold wrap64; omega
  have hnx : ∀ x, x ≠ 0 → num_Reader_Fail.next s0_2 s0_1 s0_3 x = (x, s0_1) := fun x hx => if_pos ⟨h0, hx⟩
  by_cases h3 : t3 ≠ 0
  · rw [if_pos h3] at h
    have h3 : ¬ t3 = 0 := h3
    simp only [Option.some.injEq, Prod.mk.injEq] at h
    obtain ⟨rfl, e2, e3, e4⟩ := h
    subst e2 e3 e4
    have hF := fun W h1 h2 => num_Reader_Fail.walk g s0_0 s0_1 s0_2 s0_3 t3 w0 W h1 h2
    rw [hnx _ (h3)] at hF
    by_cases hcs : c1 = s0_1.toNat
    case' pos => rw [if_pos hcs] at hKC; subst hcs
    case' neg => rw [if_neg hcs] at hKC
    all_goals
      go_enter Tryd.func87, Tryd.ntmps87
      go_wp2_with (go_at_call 71; refine (num_Reader_ok.walk g _ _ _ _ w0 _ hI0).mono ?_; rintro e w' ⟨he, rfl⟩; rw [d0] at he; subst he)
      go_region_with (go_at_call 72; refine (hLK _ _ _ hKC (by omega)).mono ?_; rintro e w2 ⟨rfl, ⟨m, rfl⟩⟩)
      all_goals
        go_wp2_with ((go_at_call 38; refine (hF _ (by repeat (first | exact hI0 | apply IsS87.drewN | apply IsS87.drew)) (by repeat (first | exact hB | apply pw_below_drewN | apply below_drew1))).mono ?_; rintro e w5 ⟨rfl, hI5, hB5, hK5⟩))
        go_ret
        exact ⟨_, rfl, Kd.R_nil _ _ _ _ _, hI5, hB5, KeepBut.trans (by repeat (first | exact KeepBut.refl _ _ _ | apply keep_drewN | apply keep_drew)) hK5 (.inl rfl)⟩
  rw [if_neg h3] at h
  have h3 : t3 = 0 := by simpa using h3
  subst h3
  by_cases hb4 : 0 ≤ t2 ∧ s0_1 + t2 ≤ (s0_0.length : Int) ∧ 0 ≤ t1 ∧ t1 < 18446744073709551616
  case neg => rw [if_neg hb4] at h; cases h
  rw [if_pos hb4] at h
  obtain ⟨hb5, hb6, hb7, hb8⟩ := hb4
  by_cases h4 : a1 < 0
  · rw [if_pos (.inl h4)] at h
    simp only [Option.some.injEq, Prod.mk.injEq] at h
    obtain ⟨rfl, e2, rfl, e4⟩ := h
    subst e2 e4
    have d4 : decide (a1 < 0) = true := decide_eq_true h4
    have hF := fun W h1 h2 => num_Reader_Fail.walk g s0_0 s0_1 s0_2 s0_3 12 w0 W h1 h2
    rw [hnx _ (by decide)] at hF
    by_cases hcs : c1 = s0_1.toNat
    case' pos => rw [if_pos hcs] at hKC; subst hcs
    case' neg => rw [if_neg hcs] at hKC
    all_goals
      go_enter Tryd.func87, Tryd.ntmps87
      go_wp2_with (go_at_call 71; refine (num_Reader_ok.walk g _ _ _ _ w0 _ hI0).mono ?_; rintro e w' ⟨he, rfl⟩; rw [d0] at he; subst he)
      go_region_with (go_at_call 72; refine (hLK _ _ _ hKC (by omega)).mono ?_; rintro e w2 ⟨rfl, ⟨m, rfl⟩⟩)
      all_goals
        go_wp2_with ((go_at_call 38; refine (hF _ (by repeat (first | exact hI0 | apply IsS87.drewN | apply IsS87.drew)) (by repeat (first | exact hB | apply pw_below_drewN | apply below_drew1))).mono ?_; rintro e w5 ⟨rfl, hI5, hB5, hK5⟩))
        go_ret
        exact ⟨_, rfl, Kd.R_nil _ _ _ _ _, hI5, hB5, KeepBut.trans (by repeat (first | exact KeepBut.refl _ _ _ | apply keep_drewN | apply keep_drew)) hK5 (.inl rfl)⟩
  have d4 : decide (a1 < 0) = false := decide_eq_false h4
  by_cases h6 : IntKind.u64.wrap a1 < t1
  · rw [if_pos (.inr h6)] at h
    simp only [Option.some.injEq, Prod.mk.injEq] at h
    obtain ⟨rfl, e2, rfl, e4⟩ := h
    subst e2 e4
    have d6 : decide (IntKind.u64.wrap a1 < t1) = true := decide_eq_true h6
    have hF := fun W h1 h2 => num_Reader_Fail.walk g s0_0 s0_1 s0_2 s0_3 12 w0 W h1 h2
    rw [hnx _ (by decide)] at hF
    by_cases hcs : c1 = s0_1.toNat
    case' pos => rw [if_pos hcs] at hKC; subst hcs
    case' neg => rw [if_neg hcs] at hKC
    all_goals
      go_enter Tryd.func87, Tryd.ntmps87
      go_wp2_with (go_at_call 71; refine (num_Reader_ok.walk g _ _ _ _ w0 _ hI0).mono ?_; rintro e w' ⟨he, rfl⟩; rw [d0] at he; subst he)
      go_region_with (go_at_call 72; refine (hLK _ _ _ hKC (by omega)).mono ?_; rintro e w2 ⟨rfl, ⟨m, rfl⟩⟩)
      all_goals
        go_wp2_with ((go_at_call 38; refine (hF _ (by repeat (first | exact hI0 | apply IsS87.drewN | apply IsS87.drew)) (by repeat (first | exact hB | apply pw_below_drewN | apply below_drew1))).mono ?_; rintro e w5 ⟨rfl, hI5, hB5, hK5⟩))
        go_ret
        exact ⟨_, rfl, Kd.R_nil _ _ _ _ _, hI5, hB5, KeepBut.trans (by repeat (first | exact KeepBut.refl _ _ _ | apply keep_drewN | apply keep_drew)) hK5 (.inl rfl)⟩
  rw [if_neg (by rintro (h | h); exact h4 h; exact h6 h)] at h
  have hu1 : wrap64 ((s0_0.length : Int) - s0_1 - t2) = (s0_0.length : Int) - s0_1 - t2 := by unfold wrap64; omega
  have hu2 : IntKind.u64.wrap ((s0_0.length : Int) - s0_1 - t2) = (s0_0.length : Int) - s0_1 - t2 := by simp [IntKind.wrap, IntKind.bits, IntKind.signed]; omega
  have d6 : decide (IntKind.u64.wrap a1 < t1) = false := decide_eq_false h6
  by_cases h7 : (s0_0.length : Int) - s0_1 - t2 < t1
  · rw [if_pos h7] at h
    simp only [Option.some.injEq, Prod.mk.injEq] at h
    obtain ⟨rfl, e2, rfl, e4⟩ := h
    subst e2 e4
    have d7 : decide ((s0_0.length : Int) - s0_1 - t2 < t1) = true := decide_eq_true h7
    have hF := fun W h1 h2 => num_Reader_Fail.walk g s0_0 s0_1 s0_2 s0_3 2 w0 W h1 h2
    rw [hnx _ (by decide)] at hF
    by_cases hcs : c1 = s0_1.toNat
    case' pos => rw [if_pos hcs] at hKC; subst hcs
    case' neg => rw [if_neg hcs] at hKC
    all_goals
      go_enter Tryd.func87, Tryd.ntmps87
      go_wp2_with (go_at_call 71; refine (num_Reader_ok.walk g _ _ _ _ w0 _ hI0).mono ?_; rintro e w' ⟨he, rfl⟩; rw [d0] at he; subst he)
      go_region_with (go_at_call 72; refine (hLK _ _ _ hKC (by omega)).mono ?_; rintro e w2 ⟨rfl, ⟨m, rfl⟩⟩)
      all_goals
        go_wp2_with (first | (go_at_call 42; refine (num_Reader_Left.walk g _ _ _ _ w0 _ (by repeat (first | exact hI0 | apply IsS87.drewN | apply IsS87.drew))).mono ?_; rintro e w4 ⟨rfl, ⟨m4, rfl⟩⟩; rw [hw]) | (go_at_call 38; refine (hF _ (by repeat (first | exact hI0 | apply IsS87.drewN | apply IsS87.drew)) (by repeat (first | exact hB | apply pw_below_drewN | apply below_drew1))).mono ?_; rintro e w5 ⟨rfl, hI5, hB5, hK5⟩))
        go_ret
        exact ⟨_, rfl, Kd.R_nil _ _ _ _ _, hI5, hB5, KeepBut.trans (by repeat (first | exact KeepBut.refl _ _ _ | apply keep_drewN | apply keep_drew)) hK5 (.inl rfl)⟩
  rw [if_neg h7] at h
  have d7 : decide ((s0_0.length : Int) - s0_1 - t2 < t1) = false := decide_eq_false h7
  have hw1 : wrap64 (s0_1 + t2) = s0_1 + t2 := by unfold wrap64; omega
  have hw2 : wrap64 t1 = t1 := by unfold wrap64; omega
  have hw3 : IntKind.i64.wrap t1 = t1 := (IntKind.wrap_i64 _).trans (by omega)
  subst h0
  have hT := fun W h1 h2 => num_Reader_Take.calls g s0_0 (s0_1 + t2) 0 s0_3 t1 r1 r2 r3 r4 w0 W h1 h2 h
  by_cases hcs : c1 = s0_1.toNat
  case' pos => rw [if_pos hcs] at hKC; subst hcs
  case' neg => rw [if_neg hcs] at hKC
  all_goals
    go_enter Tryd.func87, Tryd.ntmps87
    go_wp2_with (go_at_call 71; refine (num_Reader_ok.walk g _ _ _ _ w0 _ hI0).mono ?_; rintro e w' ⟨he, rfl⟩; rw [d0] at he; subst he)
    go_region_with (go_at_call 72; refine (hLK _ _ _ hKC (by omega)).mono ?_; rintro e w2 ⟨rfl, ⟨m, rfl⟩⟩)
    all_goals
      go_wp2_with (first | (go_at_call 42; refine (num_Reader_Left.walk g _ _ _ _ w0 _ (by repeat (first | exact hI0 | apply IsS87.drewN | apply IsS87.drew))).mono ?_; rintro e w4 ⟨rfl, ⟨m4, rfl⟩⟩; rw [hw]) | (go_at_call 41; refine (hT _ (IsS87.set_1 (by repeat (first | exact hI0 | apply IsS87.drewN | apply IsS87.drew)) _) (Below.setCell (p := ⟨g, 1, none⟩) (by repeat (first | exact hB | apply pw_below_drewN | apply below_drew1)) hg _)).mono ?_; rintro e w5 ⟨v5, rfl, hR5, hI5, hB5, hK5⟩))
      go_ret
      exact ⟨_, rfl, Kd.R_lower hR5 (by simp), hI5, hB5, KeepBut.trans (KeepBut.set_ (by repeat (first | exact KeepBut.refl _ _ _ | apply keep_drewN | apply keep_drew)) _ _) hK5 (.inl rfl)⟩

end Go.Proofs.YtieddojplhmhgaaDoor.PTextsGets
