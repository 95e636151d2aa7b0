/- WRITTEN BY A PROGRAM of this session (wip/tool: a turned copy of the printer), out of the translation: Lean functions with the answers of the Go functions, and the proofs that the Go code comes to them. -/
import Derived.Test.YtehbkhddbdgbcaaGreatDoorPChunkBackx1
import Derived.Test.YtehbkhddbdgbcaaGreatDoorPChunkBackx3
import Derived.Test.YtehbkhddbdgbcaaGreatDoorPChunkBackx4
import Derived.Test.YtehbkhddbdgbcaaGreatDoorPChunkBackx7
import Derived.Test.YtehbkhddbdgbcaaGreatDoorPChunkBackx9
import Derived.Test.YtehbkhddbdgbcaaGreatDoorPChunkBackx12
namespace Go.Proofs.YtehbkhddbdgbcaaGreatDoor.PChunkBack
open Go.RowKit Go.Proofs.YtehbkhddbdgbcaaGreatDoorW.PrintWords Go.Proofs.YtehbkhddbdgbcaaGreatDoorW.PrintLast Go.Proofs.YtehbkhddbdgbcaaGreatDoorW.PrintMore
attribute [local go_sem] max2_int min2_int max_two min_two max_three min_three max_four min_four   -- for this text's walks alone
set_option linter.unusedVariables false
set_option linter.unusedSimpArgs false

attribute [local go_sem high] eqA40
/-! ### texts_Get: function 21 -/
def estreatref14_Same.l0 : Nat → List (S40) → List (S40) → Int → Option (Bool)
 | 0, _, _, _ => none
 | k + 1, x0, x1, x5 => if x5 < (x0.length : Int) then (if 0 ≤ x5 then (if x5 < (x1.length : Int) then (if (!(((rd_T40 x0 x5).f0) == ((rd_T40 x1 x5).f0)) || (!(((rd_T40 x0 x5).f1) == ((rd_T40 x1 x5).f1)) || (!((((rd_T40 x0 x5).f2).toList) == (((rd_T40 x1 x5).f2).toList))))) = true then (some false) else (estreatref14_Same.l0 k x0 x1 (wrap64 (x5 + 1)))) else (none)) else (none)) else (some true)
def estreatref14_Same.f (k : Nat) (l0 : List (S40)) (l1 : List (S40)) : Option (Bool) := if (l0.length : Int) = (l1.length : Int) then (estreatref14_Same.l0 k l0 l1 0) else (some false)
set_option maxHeartbeats 8000000 in
set_option maxRecDepth 100000 in
theorem estreatref14_Same.calls (k : Nat) (A0 : Option Addr) (c0 : Nat) (l0 : List (S40)) (A1 : Option Addr) (c1 : Nat) (l1 : List (S40)) (r : Bool) (w : World) (hr0 : Kd.C k40 w A0 l0.length l0) (hc0 : l0.length ≤ c0) (hr1 : Kd.C k40 w A1 l1.length l1) (hc1 : l1.length ≤ c1) (h : estreatref14_Same.f k l0 l1 = some r) :
  Calls Tryz.prog 11 #[.slice A0 l0.length c0, .slice A1 l1.length c1] w fun e w' => e = .returned (.bool r) ∧ Drawn0 w w' := by
 have hu40 := Tryz.underlying40; have HR0 := Aside0.mk hr0; have HC0 := Aside0.mk hc0; clear hr0 hc0; have HR1 := Aside0.mk hr1; have HC1 := Aside0.mk hc1; clear hr1 hc1; have H : (if (l0.length : Int) = (l1.length : Int) then (estreatref14_Same.l0 k l0 l1 0) else (some false)) = some r := h; clear h
 by_cases c3 : (l0.length : Int) = (l1.length : Int)
 ·rw [if_pos c3] at H; have c3b0 : ((l0.length : Int) == (l1.length : Int)) = true := beq_iff_eq.mpr c3; have c3b1 : ((l0.length : Int) != (l1.length : Int)) = false := bne_eq_false_iff_eq.mpr c3
  have c3b2 : (l0.length == l1.length) = true := by first | simpa using c3 | (simp at c3 ⊢; omega)
  clear c3; have H' := Aside0.mk H; clear H; go_enter Tryz.func11, Tryz.ntmps11; go_wp2
  repeat (go_quiet (fail); try go_wp2)
  go_loopg [5] k (fun kq v5 w' => ∃ (x5_1 : Int), v5 = .int .i64 x5_1 ∧ Aside0 (estreatref14_Same.l0 kq l0 l1 x5_1 = some r) ∧ Aside0 (kq ≤ k) ∧ Drawn0 w w')
  case atStart => exact ⟨(0), EB, H', ⟨Nat.le_refl _⟩, DR⟩
  case round =>
   clear H'; (try clear c1); (try clear p2); (try clear c3); (try clear c3b0); (try clear c3b1); (try clear c3b2); obtain ⟨x5_1, rfl, HA, HK1, ⟨m1, rfl⟩⟩ := hrel
   cases gk with
   | zero => exact absurd HA.out (by simp [estreatref14_Same.l0])
   | succ k1 =>
    have H := HA.out; clear HA; simp only [estreatref14_Same.l0] at H
    by_cases c4 : x5_1 < (l0.length : Int)
    ·rw [if_pos c4] at H; have c4b0 := decide_eq_true c4; clear c4
     by_cases c5 : 0 ≤ x5_1
     ·rw [if_pos c5] at H; have c5b0 := decide_eq_true c5; clear c5
      by_cases c6 : x5_1 < (l1.length : Int)
      ·rw [if_pos c6] at H; have c6b0 := decide_eq_true c6; clear c6
       by_cases c7 : (!(((rd_T40 l0 x5_1).f0) == ((rd_T40 l1 x5_1).f0)) || (!(((rd_T40 l0 x5_1).f1) == ((rd_T40 l1 x5_1).f1)) || (!((((rd_T40 l0 x5_1).f2).toList) == (((rd_T40 l1 x5_1).f2).toList))))) = true
       ·rw [if_pos c7] at H; have c7b0 : (!(((rd_T40 l0 x5_1).f0) == ((rd_T40 l1 x5_1).f0)) || (!(((rd_T40 l0 x5_1).f1) == ((rd_T40 l1 x5_1).f1)) || (!((((rd_T40 l0 x5_1).f2).toList) == (((rd_T40 l1 x5_1).f2).toList))))) = true := c7; clear c7; obtain rfl := Option.some.inj H; have p653 : 0 ≤ (x5_1 : Int) := OD; have q653 : x5_1 < (l0.length : Int) := OD; obtain ⟨ad653, e653, hx653_0, hx653_1, hx653_2⟩ := at_T40 HR0.out x5_1 p653 q653
        cases e653
        replace p653 := eq_true p653; replace q653 := eq_true q653; have p654 : 0 ≤ (x5_1 : Int) := OD; have q654 : x5_1 < (l1.length : Int) := OD; obtain ⟨ad654, e654, hx654_0, hx654_1, hx654_2⟩ := at_T40 HR1.out x5_1 p654 q654
        cases e654
        replace p654 := eq_true p654; replace q654 := eq_true q654; go_wp2
        repeat (go_quiet (fail); try go_wp2)
        go_ret
        exact ⟨EB, DR⟩
       ·rw [if_neg c7] at H
        have c7b0 : (!(((rd_T40 l0 x5_1).f0) == ((rd_T40 l1 x5_1).f0)) || (!(((rd_T40 l0 x5_1).f1) == ((rd_T40 l1 x5_1).f1)) || (!((((rd_T40 l0 x5_1).f2).toList) == (((rd_T40 l1 x5_1).f2).toList))))) = false := by simpa using c7
        clear c7; have H' := Aside0.mk H; clear H; have p653 : 0 ≤ (x5_1 : Int) := OD; have q653 : x5_1 < (l0.length : Int) := OD; obtain ⟨ad653, e653, hx653_0, hx653_1, hx653_2⟩ := at_T40 HR0.out x5_1 p653 q653
        cases e653
        replace p653 := eq_true p653; replace q653 := eq_true q653; have p654 : 0 ≤ (x5_1 : Int) := OD; have q654 : x5_1 < (l1.length : Int) := OD; obtain ⟨ad654, e654, hx654_0, hx654_1, hx654_2⟩ := at_T40 HR1.out x5_1 p654 q654
        cases e654
        replace p654 := eq_true p654; replace q654 := eq_true q654; go_wp2
        repeat (go_quiet (fail); try go_wp2)
        go_roundg k1
        case measure => have := HK1.out; omega
        case rel => exact ⟨(wrap64 (x5_1 + 1)), EB, H', ⟨by have := HK1.out; omega⟩, DR⟩
      ·rw [if_neg c6] at H; exact absurd H (by simp)
     ·rw [if_neg c5] at H; exact absurd H (by simp)
    ·rw [if_neg c4] at H; have c4b0 := decide_eq_false c4; clear c4; obtain rfl := Option.some.inj H; go_wp2
     repeat (go_quiet (fail); try go_wp2)
     go_ret
     exact ⟨EB, DR⟩
 ·rw [if_neg c3] at H; have c3b0 : ((l0.length : Int) == (l1.length : Int)) = false := beq_eq_false_iff_ne.mpr c3; have c3b1 : ((l0.length : Int) != (l1.length : Int)) = true := bne_iff_ne.mpr c3
  have c3b2 : (l0.length == l1.length) = false := by first | simpa using c3 | (simp at c3 ⊢; omega)
  obtain rfl := Option.some.inj H; go_enter Tryz.func11, Tryz.ntmps11; go_wp2
  repeat (go_quiet (fail); try go_wp2)
  go_ret
  exact ⟨EB, DR⟩

end Go.Proofs.YtehbkhddbdgbcaaGreatDoor.PChunkBack
