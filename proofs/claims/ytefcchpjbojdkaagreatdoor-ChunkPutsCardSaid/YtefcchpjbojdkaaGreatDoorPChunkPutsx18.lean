/- WRITTEN BY A PROGRAM of this session (wip/tool: a turned copy of the printer), out of the translation: Lean functions with the answers of the Go functions, and the proofs that the Go code comes to them. -/
import Derived.Test.YtefcchpjbojdkaaGreatDoorPChunkPutsx0
namespace Go.Proofs.YtefcchpjbojdkaaGreatDoor.PChunkPuts
open Go.RowKit Go.Proofs.YtefcchpjbojdkaaGreatDoorW.PrintWords Go.Proofs.YtefcchpjbojdkaaGreatDoorW.PrintLast Go.Proofs.YtefcchpjbojdkaaGreatDoorW.PrintMore
attribute [local go_sem] max2_int min2_int max_two min_two max_three min_three max_four min_four   -- for this text's walks alone
set_option linter.unusedVariables false
set_option linter.unusedSimpArgs false

/-! ### estreatref02_Width: function 58 -/
mutual
def estreatref02_Width.l0 : Nat → List Int → Int → Int → Option (Int)
 | 0, _, _, _ => none
 | k + 1, x0, x3, x4 => if x4 < (x0.length : Int) then (if 0 ≤ x4 then (estreatref02_Width.l1 k x0 x3 x4 0 (rd x0 x4)) else (none)) else (some x3)
def estreatref02_Width.l1 : Nat → List Int → Int → Int → Int → Int → Option (Int)
 | 0, _, _, _, _, _ => none
 | k + 1, x0, x3, x4, x5, x6 => if x6 > 0 then (estreatref02_Width.l1 k x0 x3 x4 (wrap64 (x5 + 1)) (IntKind.u64.wrap (Int.tdiv x6 2))) else (estreatref02_Width.l0 k x0 (mx x3 x5) (wrap64 (x4 + 1)))
end
def estreatref02_Width.f (k : Nat) (l0 : List Int) : Option (Int) := estreatref02_Width.l0 k l0 0 0
set_option maxHeartbeats 8000000 in
set_option maxRecDepth 100000 in
theorem estreatref02_Width.calls (k : Nat) (A0 : Option Addr) (c0 : Nat) (l0 : List Int) (r : Int) (w : World) (hr0 : Kd.C (Kd.int .u64) w A0 l0.length l0) (hc0 : l0.length ≤ c0) (h : estreatref02_Width.f k l0 = some r) :
  Calls Tryz.prog 58 #[.slice A0 l0.length c0] w fun e w' => e = .returned (.int .i64 r) ∧ Below w.heap.size w w' := by
 have HR0 := Aside0.mk hr0
 have HC0 := Aside0.mk hc0
 clear hr0 hc0
 have HB := Aside0.mk (Below.refl w.heap.size w)
 have H : (estreatref02_Width.l0 k l0 0 0) = some r := h
 clear h
 have H' := Aside0.mk H
 clear H
 go_enter Tryz.func58, Tryz.ntmps58
 go_wp2
 go_loopg [3, 4] k (fun kq v3 v4 w' => ∃ (x3_1 : Int) (x4_1 : Int), v3 = .int .i64 x3_1 ∧ v4 = .int .i64 x4_1 ∧ Aside0 (estreatref02_Width.l0 kq l0 x3_1 x4_1 = some r) ∧ Aside0 (kq ≤ k) ∧ Aside0 (Below w.heap.size w w'))
 case atStart => exact ⟨(0), (0), EB, EB, H', ⟨Nat.le_refl _⟩, ⟨BU HB.out⟩⟩
 case round =>
  clear H'
  obtain ⟨x3_1, x4_1, rfl, rfl, HA, HK1, HB⟩ := hrel
  cases gk with
  | zero => exact absurd HA.out (by simp [estreatref02_Width.l0])
  | succ k1 =>
   have H := HA.out
   clear HA
   simp only [estreatref02_Width.l0] at H
   by_cases c2 : x4_1 < (l0.length : Int)
   ·rw [if_pos c2] at H
    have c2b0 : decide (x4_1 < (l0.length : Int)) = true := decide_eq_true c2
    clear c2
    by_cases c3 : 0 ≤ x4_1
    ·rw [if_pos c3] at H
     have c3b0 : decide (0 ≤ x4_1) = true := decide_eq_true c3
     clear c3
     have H' := Aside0.mk H
     clear H
     have p664 : 0 ≤ (x4_1 : Int) := OD
     have q664 : x4_1 < (l0.length : Int) := OD
     obtain ⟨ad664, e664, hx664_0⟩ := Kd.at_int HR0.out x4_1 p664 q664
     cases e664
     replace hx664_0 := (HB.out.cell (World.block_lt_of_cell? w _ hx664_0)).trans hx664_0
     replace p664 := eq_true p664
     replace q664 := eq_true q664
     go_wp2
     go_loopg [5, 6] k1 (fun kq v5 v6 w' => ∃ (x5_2 : Int) (x6_2 : Int), v5 = .int .i64 x5_2 ∧ v6 = .int .u64 x6_2 ∧ Aside0 (estreatref02_Width.l1 kq l0 x3_1 x4_1 x5_2 x6_2 = some r) ∧ Aside0 (kq ≤ k1) ∧ Aside0 (Below w.heap.size w w'))
     case atStart => exact ⟨(0), (rd l0 x4_1), EB, EB, H', ⟨Nat.le_refl _⟩, ⟨BU HB.out⟩⟩
     case round =>
      clear H'
      try clear c2
      try clear c2b0
      try clear p2
      try clear c3
      try clear c3b0
      try clear hx664_0
      try clear p664
      try clear q664
      obtain ⟨x5_2, x6_2, rfl, rfl, HA, HK2, HB⟩ := hrel
      cases gk with
      | zero => exact absurd HA.out (by simp [estreatref02_Width.l1])
      | succ k2 =>
       have H := HA.out
       clear HA
       simp only [estreatref02_Width.l1] at H
       by_cases c4 : x6_2 > 0
       ·rw [if_pos c4] at H
        have c4b0 : decide (0 < x6_2) = true := decide_eq_true c4
        clear c4
        have H' := Aside0.mk H
        clear H
        go_wp2
        go_roundg k2
        case measure => have := HK1.out; have := HK2.out; omega
        case rel => exact ⟨(wrap64 (x5_2 + 1)), (IntKind.u64.wrap (Int.tdiv x6_2 2)), EB, EB, H', ⟨by have := HK1.out; have := HK2.out; omega⟩, ⟨BU HB.out⟩⟩
       ·rw [if_neg c4] at H
        have c4b0 : decide (0 < x6_2) = false := decide_eq_false c4
        clear c4
        obtain ⟨ji5, hji5⟩ : ∃ j_ : Int, (mx x3_1 x5_2) = j_ := ⟨_, rfl⟩
        replace H : (estreatref02_Width.l0 k2 l0 ji5 (wrap64 (x4_1 + 1))) = some r := by first | (rw [hji5] at H; exact H) | (simp only [hji5] at H ⊢; exact H)
        have hji5_ : (if x3_1 < x5_2 then x5_2 else x3_1) = ji5 := hji5
        have H' := Aside0.mk H
        clear H
        go_wp2
        go_roundg k2
        case measure => have := HK1.out; have := HK2.out; omega
        case rel => exact ⟨(ji5), (wrap64 (x4_1 + 1)), (by first | rfl | (simp; done) | (simp only [← hji5] <;> (first | rfl | simp)) | (simp [*]; done)), EB, H', ⟨by have := HK1.out; have := HK2.out; omega⟩, ⟨BU HB.out⟩⟩
    ·rw [if_neg c3] at H
     exact absurd H (by simp)
   ·rw [if_neg c2] at H
    have c2b0 : decide (x4_1 < (l0.length : Int)) = false := decide_eq_false c2
    clear c2
    obtain rfl := Option.some.inj H
    go_wp2
    go_ret
    exact ⟨by first | rfl | (simp [errW_none, errW_some] <;> rfl) | (simp [*, errW_none, errW_some] <;> rfl), BU HB.out⟩

/-! ### estreatref02_Size: function 102 -/
def estreatref02_Size.j0 : Nat → Int → Int → Bool → Option (Int)
 | 0, _, _, _ => none
 | k + 1, x0, x1, x19 => if x19 = true then (some (-1)) else (if (wrap64 (8 * (wrap64 (Int.tdiv (wrap64 (x0 * x1)) 8)))) < (wrap64 (x0 * x1)) then (some (wrap64 ((wrap64 (Int.tdiv (wrap64 (x0 * x1)) 8)) + 1))) else (some (wrap64 (Int.tdiv (wrap64 (x0 * x1)) 8))))
def estreatref02_Size.f (k : Nat) (a0 : Int) (a1 : Int) : Option (Int) := if a0 < 0 then (estreatref02_Size.j0 k a0 a1 true) else (if a0 > 65536 then (estreatref02_Size.j0 k a0 a1 true) else (if a1 < 0 then (estreatref02_Size.j0 k a0 a1 true) else (estreatref02_Size.j0 k a0 a1 (decide (a1 > 64)))))
set_option maxHeartbeats 8000000 in
set_option maxRecDepth 100000 in
theorem estreatref02_Size.calls (k : Nat) (a0 : Int) (a1 : Int) (r : Int) (w : World) (h : estreatref02_Size.f k a0 a1 = some r) :
  Calls Tryz.prog 102 #[.int .i64 a0, .int .i64 a1] w fun e w' => e = .returned (.int .i64 r) ∧ Drawn0 w w' := by
 have H : (if a0 < 0 then (estreatref02_Size.j0 k a0 a1 true) else (if a0 > 65536 then (estreatref02_Size.j0 k a0 a1 true) else (if a1 < 0 then (estreatref02_Size.j0 k a0 a1 true) else (estreatref02_Size.j0 k a0 a1 (decide (a1 > 64)))))) = some r := h
 clear h
 have HC3 := Aside0.mk H
 clear H
 go_enter Tryz.func102, Tryz.ntmps102
 go_upto_region 1 with (fail)
 go_cut [19] (fun v19 wc => ∃ (kq : Nat) (x19_2 : Bool), v19 = .bool x19_2 ∧ Aside0 (estreatref02_Size.j0 kq a0 a1 x19_2 = some r) ∧ Aside0 (kq ≤ k) ∧ Drawn0 w wc)
 case first =>
  have H := HC3.out
  clear HC3
  by_cases c4 : a0 < 0
  ·rw [if_pos c4] at H
   have c4b0 : decide (a0 < 0) = true := decide_eq_true c4
   clear c4
   (first | rw [c4b0] | (simp only [i64_w, i32_w]; rw [c4b0]) | skip)
   have H' := Aside0.mk H
   clear H
   go_wp2
   go_meet
   case rel => exact ⟨_, (true), EB, H', ⟨by first | omega | exact Nat.le_refl _⟩, by repeat (first | exact Drawn0.refl _ | apply Drawn0.step)⟩
  ·rw [if_neg c4] at H
   have c4b0 : decide (a0 < 0) = false := decide_eq_false c4
   clear c4
   (first | rw [c4b0] | (simp only [i64_w, i32_w]; rw [c4b0]) | skip)
   by_cases c5 : a0 > 65536
   ·rw [if_pos c5] at H
    have c5b0 : decide (65536 < a0) = true := decide_eq_true c5
    clear c5
    have H' := Aside0.mk H
    clear H
    go_wp2
    go_meet
    case rel => exact ⟨_, (true), EB, H', ⟨by first | omega | exact Nat.le_refl _⟩, by repeat (first | exact Drawn0.refl _ | apply Drawn0.step)⟩
   ·rw [if_neg c5] at H
    have c5b0 : decide (65536 < a0) = false := decide_eq_false c5
    clear c5
    by_cases c6 : a1 < 0
    ·rw [if_pos c6] at H
     have c6b0 : decide (a1 < 0) = true := decide_eq_true c6
     clear c6
     have H' := Aside0.mk H
     clear H
     go_wp2
     go_meet
     case rel => exact ⟨_, (true), EB, H', ⟨by first | omega | exact Nat.le_refl _⟩, by repeat (first | exact Drawn0.refl _ | apply Drawn0.step)⟩
    ·rw [if_neg c6] at H
     have c6b0 : decide (a1 < 0) = false := decide_eq_false c6
     clear c6
     have H' := Aside0.mk H
     clear H
     go_wp2
     go_meet
     case rel => exact ⟨_, (decide (a1 > 64)), EB, H', ⟨by first | omega | exact Nat.le_refl _⟩, by repeat (first | exact Drawn0.refl _ | apply Drawn0.step)⟩
 case rest =>
  clear HC3
  try clear c1
  try clear p2
  try clear c4
  try clear c4b0
  try clear c5
  try clear c5b0
  try clear c6
  try clear c6b0
  obtain ⟨kq, x19_2, rfl, HA, HJ2, ⟨mc2, rfl⟩⟩ := hcut
  cases kq with
  | zero => exact absurd HA.out (by simp [estreatref02_Size.j0])
  | succ kj2 =>
   have H := HA.out
   clear HA
   simp only [estreatref02_Size.j0] at H
   by_cases c7 : x19_2 = true
   ·subst c7
    have H1 : (some (-1)) = some r := by rw [if_pos rfl] at H; exact H
    clear H
    have H := H1
    clear H1
    obtain rfl := Option.some.inj H
    go_wp2
    go_ret
    exact ⟨by first | rfl | (simp; done) | (simp [*]; done), by repeat (first | exact Drawn0.refl _ | apply Drawn0.step)⟩
   ·replace c7 := Bool.eq_false_iff.mpr c7
    subst c7
    have H1 : (if (wrap64 (8 * (wrap64 (Int.tdiv (wrap64 (a0 * a1)) 8)))) < (wrap64 (a0 * a1)) then (some (wrap64 ((wrap64 (Int.tdiv (wrap64 (a0 * a1)) 8)) + 1))) else (some (wrap64 (Int.tdiv (wrap64 (a0 * a1)) 8)))) = some r := by rw [if_neg (show ¬ (false = true) by decide)] at H; exact H
    clear H
    have H := H1
    clear H1
    by_cases c8 : (wrap64 (8 * (wrap64 (Int.tdiv (wrap64 (a0 * a1)) 8)))) < (wrap64 (a0 * a1))
    ·rw [if_pos c8] at H
     have c8b0 : decide ((wrap64 (8 * (wrap64 (Int.tdiv (wrap64 (a0 * a1)) 8)))) < (wrap64 (a0 * a1))) = true := decide_eq_true c8
     clear c8
     obtain rfl := Option.some.inj H
     go_wp2
     go_ret
     exact ⟨by first | rfl | (simp; done) | (simp [*]; done), by repeat (first | exact Drawn0.refl _ | apply Drawn0.step)⟩
    ·rw [if_neg c8] at H
     have c8b0 : decide ((wrap64 (8 * (wrap64 (Int.tdiv (wrap64 (a0 * a1)) 8)))) < (wrap64 (a0 * a1))) = false := decide_eq_false c8
     clear c8
     obtain rfl := Option.some.inj H
     go_wp2
     go_ret
     exact ⟨by first | rfl | (simp; done) | (simp [*]; done), by repeat (first | exact Drawn0.refl _ | apply Drawn0.step)⟩

/-! ### estreatref02_bit: function 103 -/
def estreatref02_bit.f (a0 : Int) (a1 : Int) : Option (Bool) := if 0 ≤ (IntKind.u64.wrap (a1)) then (some ((Int.tmod (shr .u64 a0 (IntKind.u64.wrap (a1))) 2) == 1)) else (none)
set_option maxHeartbeats 8000000 in
set_option maxRecDepth 100000 in
theorem estreatref02_bit.calls (a0 : Int) (a1 : Int) (r : Bool) (w : World) (h : estreatref02_bit.f a0 a1 = some r) :
  Calls Tryz.prog 103 #[.int .u64 a0, .int .i64 a1] w fun e w' => e = .returned (.bool r) ∧ Drawn0 w w' := by
 have H : (if 0 ≤ (IntKind.u64.wrap (a1)) then (some ((Int.tmod (shr .u64 a0 (IntKind.u64.wrap (a1))) 2) == 1)) else (none)) = some r := h
 clear h
 obtain ⟨ji3, hji3⟩ : ∃ j_ : Int, (IntKind.u64.wrap (a1)) = j_ := ⟨_, rfl⟩
 replace H : (if 0 ≤ (ji3) then (some ((Int.tmod (shr .u64 a0 (ji3)) 2) == 1)) else (none)) = some r := by first | (rw [hji3] at H; exact H) | (simp only [hji3] at H ⊢; exact H)
 by_cases c4 : 0 ≤ (ji3)
 ·rw [if_pos c4] at H
  have c4b0 := eq_true c4
  have c4b1 : decide (0 ≤ (ji3)) = true := decide_eq_true c4
  clear c4
  obtain ⟨ji5, hji5⟩ : ∃ j_ : Int, (shr .u64 a0 (ji3)) = j_ := ⟨_, rfl⟩
  replace H : (some ((Int.tmod (ji5) 2) == 1)) = some r := by first | (rw [hji5] at H; exact H) | (simp only [hji5] at H ⊢; exact H)
  have hji5_ : (a0 / 2 ^ min (ji3).toNat 64) = ji5 := hji5
  have hji5z : (ji3) ≤ 64 → (a0 / 2 ^ (ji3).toNat) = ji5 := shr_small hji5
  obtain rfl := Option.some.inj H
  go_enter Tryz.func103, Tryz.ntmps103
  go_wp2
  go_ret
  exact ⟨by first | rfl | (simp; done) | (simp only [← hji3, ← hji5] <;> (first | rfl | simp)) | (simp [*]; done), by repeat (first | exact Drawn0.refl _ | apply Drawn0.step)⟩
 ·rw [if_neg c4] at H
  exact absurd H (by simp)

/-! ### estreatref02_Pack: function 59 -/
mutual
def estreatref02_Pack.l0 : Nat → List Int → Int → Int → List Bool → Int → Option (List Int × Int)
 | 0, _, _, _, _, _ => none
 | k + 1, x0, x1, x6, x7, x8 => if x8 < (x0.length : Int) then (estreatref02_Pack.l1 k x0 x1 x6 x7 x8 0) else (estreatref02_Pack.l2 k x6 x7 ([] : List Int) 0)
def estreatref02_Pack.l1 : Nat → List Int → Int → Int → List Bool → Int → Int → Option (List Int × Int)
 | 0, _, _, _, _, _, _ => none
 | k + 1, x0, x1, x6, x7, x8, x9 => if x9 < x1 then (if 0 ≤ x8 then (if x8 < (x0.length : Int) then ((estreatref02_bit.f (rd x0 x8) x9).bind fun t668 => (if x7.length < 140737488355328 then (estreatref02_Pack.l1 k x0 x1 x6 (x7 ++ [t668]) x8 (wrap64 (x9 + 1))) else (none))) else (none)) else (none)) else (estreatref02_Pack.l0 k x0 x1 x6 x7 (wrap64 (x8 + 1)))
def estreatref02_Pack.l2 : Nat → Int → List Bool → List Int → Int → Option (List Int × Int)
 | 0, _, _, _, _ => none
 | k + 1, x6, x7, x10, x11 => if x11 < x6 then (estreatref02_Pack.l3 k x6 x7 x10 x11 0 7) else (some (x10, 0))
def estreatref02_Pack.l3 : Nat → Int → List Bool → List Int → Int → Int → Int → Option (List Int × Int)
 | 0, _, _, _, _, _, _ => none
 | k + 1, x6, x7, x10, x11, x12, x13 => if x13 ≥ 0 then (if (wrap64 ((wrap64 (8 * x11)) + x13)) < (x7.length : Int) then (if 0 ≤ (wrap64 ((wrap64 (8 * x11)) + x13)) then (if rdOf false x7 (wrap64 ((wrap64 (8 * x11)) + x13)) = true then (estreatref02_Pack.l3 k x6 x7 x10 x11 (wrap64 ((wrap64 (2 * x12)) + 1)) (wrap64 (x13 - 1))) else (estreatref02_Pack.l3 k x6 x7 x10 x11 (wrap64 (2 * x12)) (wrap64 (x13 - 1)))) else (none)) else (estreatref02_Pack.l3 k x6 x7 x10 x11 (wrap64 (2 * x12)) (wrap64 (x13 - 1)))) else (if x10.length < 140737488355328 then (estreatref02_Pack.l2 k x6 x7 (x10 ++ [(x12) % 256]) (wrap64 (x11 + 1))) else (none))
end
def estreatref02_Pack.f (k : Nat) (l0 : List Int) (a1 : Int) : Option (List Int × Int) := (estreatref02_Size.f k (l0.length : Int) a1).bind fun t665 => (if t665 < 0 then (some (([] : List Int), 1)) else ((estreatref02_Width.f k l0).bind fun t666 => (if t666 > a1 then (some (([] : List Int), 5)) else (estreatref02_Pack.l0 k l0 a1 t665 ([] : List Bool) 0))))
set_option maxHeartbeats 8000000 in
set_option maxRecDepth 100000 in
theorem estreatref02_Pack.calls (k : Nat) (A0 : Option Addr) (c0 : Nat) (l0 : List Int) (a1 : Int) (r1 : List Int) (r2 : Int) (w : World) (hr0 : Kd.C (Kd.int .u64) w A0 l0.length l0) (hc0 : l0.length ≤ c0) (h : estreatref02_Pack.f k l0 a1 = some (r1, r2)) :
  Calls Tryz.prog 59 #[.slice A0 l0.length c0, .int .i64 a1] w fun e w' => ∃ v0_ : Value, e = .returned (.tuple #[v0_, .int .i64 r2]) ∧ Kd.R (Kd.int .u8) 5 w' w.heap.size (fun _ => True) v0_ r1 ∧ Below w.heap.size w w' := by
 have HR0 := Aside0.mk hr0
 have HC0 := Aside0.mk hc0
 clear hr0 hc0
 have HB := Aside0.mk (Below.refl w.heap.size w)
 have H : ((estreatref02_Size.f k (l0.length : Int) a1).bind fun t665 => (if t665 < 0 then (some (([] : List Int), 1)) else ((estreatref02_Width.f k l0).bind fun t666 => (if t666 > a1 then (some (([] : List Int), 5)) else (estreatref02_Pack.l0 k l0 a1 t665 ([] : List Bool) 0))))) = some (r1, r2) := h
 clear h
 replace H := Option.bind_eq_some_iff.mp H
 obtain ⟨t665, A30, H⟩ := H
 replace H : (if t665 < 0 then (some (([] : List Int), 1)) else ((estreatref02_Width.f k l0).bind fun t666 => (if t666 > a1 then (some (([] : List Int), 5)) else (estreatref02_Pack.l0 k l0 a1 t665 ([] : List Bool) 0)))) = some (r1, r2) := H
 have A3 := Aside0.mk A30
 clear A30
 by_cases c4 : t665 < 0
 ·rw [if_pos c4] at H
  have c4b0 : decide (t665 < 0) = true := decide_eq_true c4
  clear c4
  simp only [Option.some.injEq, Prod.mk.injEq] at H
  obtain ⟨rfl, rfl⟩ := H
  go_enter Tryz.func59, Tryz.ntmps59
  go_wp2_with (first | ((with_reducible refine gate_callee (f := 102) rfl ?_); refine goesL_ (some 17) rfl rfl Tryz.func102 (by kernel_rfl) rfl #[.int .i64 (l0.length : Int), .int .i64 a1] rfl EA ?_; (with_reducible refine (estreatref02_Size.calls k (l0.length : Int) a1 t665 _ A3.out).mono ?_); rintro e w' ⟨rfl, ⟨nd, rfl⟩⟩; refine ⟨_, rfl, ?_⟩))
  go_ret2
  exact ⟨_, by first | rfl | (simp [errW_none, errW_some] <;> rfl) | (simp [*, errW_none, errW_some] <;> rfl), by first | exact Kd.R_nil _ _ _ _ _ | exact Kd.N_nil _ _ _ _ _ | exact Kd.V_nil _ _ _ _ _ | exact Kd.Q_nil _ _ _ _ _ | exact Kd.S_nil _ _ _ _ _, BU HB.out⟩
 ·rw [if_neg c4] at H
  have c4b0 : decide (t665 < 0) = false := decide_eq_false c4
  clear c4
  replace H := Option.bind_eq_some_iff.mp H
  obtain ⟨t666, A50, H⟩ := H
  replace H : (if t666 > a1 then (some (([] : List Int), 5)) else (estreatref02_Pack.l0 k l0 a1 t665 ([] : List Bool) 0)) = some (r1, r2) := H
  have A5 := Aside0.mk A50
  clear A50
  by_cases c6 : t666 > a1
  ·rw [if_pos c6] at H
   have c6b0 : decide (a1 < t666) = true := decide_eq_true c6
   clear c6
   simp only [Option.some.injEq, Prod.mk.injEq] at H
   obtain ⟨rfl, rfl⟩ := H
   go_enter Tryz.func59, Tryz.ntmps59
   go_wp2_with (first | ((with_reducible refine gate_callee (f := 102) rfl ?_); refine goesL_ (some 17) rfl rfl Tryz.func102 (by kernel_rfl) rfl #[.int .i64 (l0.length : Int), .int .i64 a1] rfl EA ?_; (with_reducible refine (estreatref02_Size.calls k (l0.length : Int) a1 t665 _ A3.out).mono ?_); rintro e w' ⟨rfl, ⟨nd, rfl⟩⟩; refine ⟨_, rfl, ?_⟩) | ((with_reducible refine gate_callee (f := 58) rfl ?_); refine goesL_ (some 21) rfl rfl Tryz.func58 (by kernel_rfl) rfl #[.slice A0 l0.length c0] rfl EA ?_; (with_reducible refine (estreatref02_Width.calls k _ _ l0 t666 _ ?side1 ?side2 A5.out).mono ?_); (case side1 => exact CU HR0.out); (case side2 => exact HC0.out); rintro e w7 ⟨rfl, hb⟩; refine ⟨_, rfl, ?_⟩; have n0_ := Aside0.mk (below_step (BU HB.out) hb); clear HB; have HB := n0_; clear n0_; (try clear hb); (try clear hb2); (try clear hk); (try clear hi)))
   go_ret2
   exact ⟨_, by first | rfl | (simp [errW_none, errW_some] <;> rfl) | (simp [*, errW_none, errW_some] <;> rfl), by first | exact Kd.R_nil _ _ _ _ _ | exact Kd.N_nil _ _ _ _ _ | exact Kd.V_nil _ _ _ _ _ | exact Kd.Q_nil _ _ _ _ _ | exact Kd.S_nil _ _ _ _ _, BU HB.out⟩
  ·rw [if_neg c6] at H
   have c6b0 : decide (a1 < t666) = false := decide_eq_false c6
   clear c6
   have H' := Aside0.mk H
   clear H
   go_enter Tryz.func59, Tryz.ntmps59
   go_wp2_with (first | ((with_reducible refine gate_callee (f := 102) rfl ?_); refine goesL_ (some 17) rfl rfl Tryz.func102 (by kernel_rfl) rfl #[.int .i64 (l0.length : Int), .int .i64 a1] rfl EA ?_; (with_reducible refine (estreatref02_Size.calls k (l0.length : Int) a1 t665 _ A3.out).mono ?_); rintro e w' ⟨rfl, ⟨nd, rfl⟩⟩; refine ⟨_, rfl, ?_⟩) | ((with_reducible refine gate_callee (f := 58) rfl ?_); refine goesL_ (some 21) rfl rfl Tryz.func58 (by kernel_rfl) rfl #[.slice A0 l0.length c0] rfl EA ?_; (with_reducible refine (estreatref02_Width.calls k _ _ l0 t666 _ ?side1 ?side2 A5.out).mono ?_); (case side1 => exact CU HR0.out); (case side2 => exact HC0.out); rintro e w8 ⟨rfl, hb⟩; refine ⟨_, rfl, ?_⟩; have n0_ := Aside0.mk (below_step (BU HB.out) hb); clear HB; have HB := n0_; clear n0_; (try clear hb); (try clear hb2); (try clear hk); (try clear hi)))
   go_loopg [7, 8] k (fun kq v7 v8 w' => ∃ (x7_1 : List Bool) (x8_1 : Int), v8 = .int .i64 x8_1 ∧ Aside0 (estreatref02_Pack.l0 kq l0 a1 t665 x7_1 x8_1 = some (r1, r2)) ∧ Aside0 (kq ≤ k) ∧ Aside0 (Kd.R Kd.bool 4 w' w.heap.size (fun _ => True) v7 x7_1) ∧ Aside0 (Below w.heap.size w w'))
   case atStart => exact ⟨(([] : List Bool)), (0), EB, H', ⟨Nat.le_refl _⟩, ⟨by first | exact Kd.R_nil _ _ _ _ _ | exact Kd.N_nil _ _ _ _ _ | exact Kd.V_nil _ _ _ _ _ | exact Kd.Q_nil _ _ _ _ _ | exact Kd.S_nil _ _ _ _ _⟩, ⟨BU HB.out⟩⟩
   case round =>
    clear H'
    try clear c1
    try clear p2
    try clear c4
    try clear c4b0
    try clear c5
    try clear c6
    try clear c6b0
    obtain ⟨x7_1, x8_1, rfl, HA, HK1, HO_7, HB⟩ := hrel
    cases gk with
    | zero => exact absurd HA.out (by simp [estreatref02_Pack.l0])
    | succ k1 =>
     have H := HA.out
     clear HA
     simp only [estreatref02_Pack.l0] at H
     by_cases c9 : x8_1 < (l0.length : Int)
     ·rw [if_pos c9] at H
      have c9b0 : decide (x8_1 < (l0.length : Int)) = true := decide_eq_true c9
      clear c9
      have H' := Aside0.mk H
      clear H
      go_wp2
      go_loopg [7, 9] k1 (fun kq v7 v9 w' => ∃ (x7_2 : List Bool) (x9_2 : Int), v9 = .int .i64 x9_2 ∧ Aside0 (estreatref02_Pack.l1 kq l0 a1 t665 x7_2 x8_1 x9_2 = some (r1, r2)) ∧ Aside0 (kq ≤ k1) ∧ Aside0 (Kd.R Kd.bool 4 w' w.heap.size (fun _ => True) v7 x7_2) ∧ Aside0 (Below w.heap.size w w'))
      case atStart => exact ⟨(x7_1), (0), EB, H', ⟨Nat.le_refl _⟩, ⟨RU HO_7.out⟩, ⟨BU HB.out⟩⟩
      case round =>
       clear H'
       try clear c1
       try clear p2
       try clear c4
       try clear c4b0
       try clear c5
       try clear c6
       try clear c6b0
       try clear c9
       try clear c9b0
       try clear p2
       obtain ⟨x7_2, x9_2, rfl, HA, HK2, HO_7, HB⟩ := hrel
       cases gk with
       | zero => exact absurd HA.out (by simp [estreatref02_Pack.l1])
       | succ k2 =>
        have H := HA.out
        clear HA
        simp only [estreatref02_Pack.l1] at H
        by_cases c10 : x9_2 < a1
        ·rw [if_pos c10] at H
         have c10b0 : decide (x9_2 < a1) = true := decide_eq_true c10
         clear c10
         by_cases c11 : 0 ≤ x8_1
         ·rw [if_pos c11] at H
          have c11b0 : decide (0 ≤ x8_1) = true := decide_eq_true c11
          clear c11
          by_cases c12 : x8_1 < (l0.length : Int)
          ·rw [if_pos c12] at H
           have c12b0 : decide (x8_1 < (l0.length : Int)) = true := decide_eq_true c12
           clear c12
           replace H := Option.bind_eq_some_iff.mp H
           obtain ⟨t668, A130, H⟩ := H
           replace H : (if x7_2.length < 140737488355328 then (estreatref02_Pack.l1 k2 l0 a1 t665 (x7_2 ++ [t668]) x8_1 (wrap64 (x9_2 + 1))) else (none)) = some (r1, r2) := H
           have A13 := Aside0.mk A130
           clear A130
           by_cases c14 : x7_2.length < 140737488355328
           ·rw [if_pos c14] at H
            have LMc14 := Aside0.mk c14
            clear c14
            obtain ⟨y669, hy669⟩ : ∃ y_ : List Bool, y_ = (x7_2 ++ [t668]) := ⟨_, rfl⟩
            replace H : (estreatref02_Pack.l1 k2 l0 a1 t665 y669 x8_1 (wrap64 (x9_2 + 1))) = some (r1, r2) := by first | (rw [hy669]; with_reducible exact H) | (have H2_ := (Option.bind_some _ _).symm.trans H; rw [hy669]; with_reducible exact H2_) | (have H2_ := (Option.bind_some _ _).symm.trans H; with_reducible exact H2_) | with_reducible exact H | (rw [hy669]; exact H) | exact H
            have Ny669 := Aside0.mk hy669
            clear hy669
            have H' := Aside0.mk H
            clear H
            have p667 : 0 ≤ (x8_1 : Int) := OD
            have q667 : x8_1 < (l0.length : Int) := OD
            obtain ⟨ad667, e667, hx667_0⟩ := Kd.at_int HR0.out x8_1 p667 q667
            cases e667
            replace hx667_0 := (HB.out.cell (World.block_lt_of_cell? w _ hx667_0)).trans hx667_0
            replace p667 := eq_true p667
            replace q667 := eq_true q667
            go_wp2_with (first | ((with_reducible refine gate_callee (f := 103) rfl ?_); refine goesL_ (some 41) rfl rfl Tryz.func103 (by kernel_rfl) rfl #[.int .u64 (rd l0 x8_1), .int .i64 x9_2] rfl EA ?_; (with_reducible refine (estreatref02_bit.calls (rd l0 x8_1) x9_2 t668 _ A13.out).mono ?_); rintro e w' ⟨rfl, ⟨nd, rfl⟩⟩; refine ⟨_, rfl, ?_⟩) | ((with_reducible refine gate_builtin (b := .append) (xs := #[.tmp 35, .tmp 42]) rfl ?_); at_builtin; refine Kd.R_append Kd.bool (w0 := w) w.heap.size rfl (.tmp 35) (.tmp 42) 54 4 (.bool false) 1 rfl Tryz.underlying54 info4 rfl (by decide) (by omega) u7 x7_2 t668 [.bool t668] (fun _ => True) (fun _ => False) rfl rfl ?aP (fun _ hk => hk.elim) ?aF ?aO ?aB ?aS ?aL ?_; (case aP => exact rfl); (case aB => exact (BU HB.out)); (case aF => exact (fun _ _ => trivial)); (case aO => exact (RU HO_7.out)); (case aS => exact (below_size (BU HB.out))); (case aL => have := LMc14.out; omega); intro v670 w15 ho hb hg hat; rw [← Ny669.out] at ho; have n0_ := Aside0.mk (hb); have n1_ := Aside0.mk (ho); clear HB HO_7; have HB := n0_; have HO671 := n1_; clear n0_ n1_; clear ho hb hg hat))
            go_roundg k2
            case measure => have := HK1.out; have := HK2.out; omega
            case rel => exact ⟨(y669), (wrap64 (x9_2 + 1)), EB, H', ⟨by have := HK1.out; have := HK2.out; omega⟩, ⟨RU HO671.out⟩, ⟨BU HB.out⟩⟩
           ·rw [if_neg c14] at H
            exact absurd H (by simp)
          ·rw [if_neg c12] at H
           exact absurd H (by simp)
         ·rw [if_neg c11] at H
          exact absurd H (by simp)
        ·rw [if_neg c10] at H
         have c10b0 : decide (x9_2 < a1) = false := decide_eq_false c10
         clear c10
         have H' := Aside0.mk H
         clear H
         go_wp2
         go_roundg k2
         case measure => have := HK1.out; have := HK2.out; omega
         case rel => exact ⟨(x7_2), (wrap64 (x8_1 + 1)), EB, H', ⟨by have := HK1.out; have := HK2.out; omega⟩, ⟨RU HO_7.out⟩, ⟨BU HB.out⟩⟩
     ·rw [if_neg c9] at H
      have c9b0 : decide (x8_1 < (l0.length : Int)) = false := decide_eq_false c9
      clear c9
      have H' := Aside0.mk H
      clear H
      go_wp2
      go_loopg [10, 11] k1 (fun kq v10 v11 w' => ∃ (x10_2 : List Int) (x11_2 : Int), v11 = .int .i64 x11_2 ∧ Aside0 (estreatref02_Pack.l2 kq t665 x7_1 x10_2 x11_2 = some (r1, r2)) ∧ Aside0 (kq ≤ k1) ∧ Aside0 (Kd.R Kd.bool 4 w' w.heap.size (fun _ => True) u7 x7_1) ∧ Aside0 (Kd.R (Kd.int .u8) 5 w' w.heap.size (fun _ => True) v10 x10_2) ∧ Aside0 (Below w.heap.size w w'))
      case atStart => exact ⟨(([] : List Int)), (0), EB, H', ⟨Nat.le_refl _⟩, ⟨RU HO_7.out⟩, ⟨by first | exact Kd.R_nil _ _ _ _ _ | exact Kd.N_nil _ _ _ _ _ | exact Kd.V_nil _ _ _ _ _ | exact Kd.Q_nil _ _ _ _ _ | exact Kd.S_nil _ _ _ _ _⟩, ⟨BU HB.out⟩⟩
      case round =>
       clear H'
       try clear c1
       try clear p2
       try clear c4
       try clear c4b0
       try clear c5
       try clear c6
       try clear c6b0
       try clear p6
       try clear q6
       try clear hx6
       try clear c9
       try clear c9b0
       try clear c10
       try clear c10b0
       try clear c11
       try clear c11b0
       try clear c12
       try clear c12b0
       try clear c14
       try clear hx667_0
       try clear p2
       try clear p667
       try clear q667
       obtain ⟨x10_2, x11_2, rfl, HA, HK2, HO_7, HO_10, HB⟩ := hrel
       cases gk with
       | zero => exact absurd HA.out (by simp [estreatref02_Pack.l2])
       | succ k2 =>
        have H := HA.out
        clear HA
        simp only [estreatref02_Pack.l2] at H
        by_cases c16 : x11_2 < t665
        ·rw [if_pos c16] at H
         have c16b0 : decide (x11_2 < t665) = true := decide_eq_true c16
         clear c16
         have H' := Aside0.mk H
         clear H
         go_wp2
         go_loopg [12, 13] k2 (fun kq v12 v13 w' => ∃ (x12_3 : Int) (x13_3 : Int), v12 = .int .i64 x12_3 ∧ v13 = .int .i64 x13_3 ∧ Aside0 (estreatref02_Pack.l3 kq t665 x7_1 x10_2 x11_2 x12_3 x13_3 = some (r1, r2)) ∧ Aside0 (kq ≤ k2) ∧ Aside0 (Kd.R Kd.bool 4 w' w.heap.size (fun _ => True) u7 x7_1) ∧ Aside0 (Kd.R (Kd.int .u8) 5 w' w.heap.size (fun _ => True) u10 x10_2) ∧ Aside0 (Below w.heap.size w w'))
         case atStart => exact ⟨(0), (7), EB, EB, H', ⟨Nat.le_refl _⟩, ⟨RU HO_7.out⟩, ⟨RU HO_10.out⟩, ⟨BU HB.out⟩⟩
         case round =>
          clear H'
          try clear c1
          try clear p2
          try clear c4
          try clear c4b0
          try clear c5
          try clear c6
          try clear c6b0
          try clear p6
          try clear q6
          try clear hx6
          try clear c9
          try clear c9b0
          try clear c10
          try clear c10b0
          try clear c11
          try clear c11b0
          try clear c12
          try clear c12b0
          try clear c14
          try clear c16
          try clear c16b0
          try clear hx667_0
          try clear p2
          try clear p6
          try clear p667
          try clear q6
          try clear q667
          obtain ⟨x12_3, x13_3, rfl, rfl, HA, HK3, HO_7, HO_10, HB⟩ := hrel
          cases gk with
          | zero => exact absurd HA.out (by simp [estreatref02_Pack.l3])
          | succ k3 =>
           have H := HA.out
           clear HA
           simp only [estreatref02_Pack.l3] at H
           by_cases c17 : x13_3 ≥ 0
           ·rw [if_pos c17] at H
            have c17b0 : decide (0 ≤ x13_3) = true := decide_eq_true c17
            clear c17
            by_cases c18 : (wrap64 ((wrap64 (8 * x11_2)) + x13_3)) < (x7_1.length : Int)
            ·rw [if_pos c18] at H
             have c18b0 : decide ((wrap64 ((wrap64 (8 * x11_2)) + x13_3)) < (x7_1.length : Int)) = true := decide_eq_true c18
             clear c18
             obtain ⟨ji19, hji19⟩ : ∃ j_ : Int, (wrap64 ((wrap64 (8 * x11_2)) + x13_3)) = j_ := ⟨_, rfl⟩
             replace H : (if 0 ≤ (ji19) then (if rdOf false x7_1 (ji19) = true then (estreatref02_Pack.l3 k3 t665 x7_1 x10_2 x11_2 (wrap64 ((wrap64 (2 * x12_3)) + 1)) (wrap64 (x13_3 - 1))) else (estreatref02_Pack.l3 k3 t665 x7_1 x10_2 x11_2 (wrap64 (2 * x12_3)) (wrap64 (x13_3 - 1)))) else (none)) = some (r1, r2) := by first | (rw [hji19] at H; exact H) | (simp only [hji19] at H ⊢; exact H)
             (try rw [hji19] at c18b0)
             have hji19w : (IntKind.i64.wrap ((wrap64 (8 * x11_2)) + x13_3)) = ji19 := (i64_w _).trans hji19
             by_cases c20 : 0 ≤ (ji19)
             ·rw [if_pos c20] at H
              have c20b0 : decide (0 ≤ (ji19)) = true := decide_eq_true c20
              clear c20
              obtain ⟨bq21, hbq21⟩ : ∃ b_ : Bool, b_ = (rdOf false x7_1 (ji19)) := ⟨_, rfl⟩
              replace H : (if bq21 = true then (estreatref02_Pack.l3 k3 t665 x7_1 x10_2 x11_2 (wrap64 ((wrap64 (2 * x12_3)) + 1)) (wrap64 (x13_3 - 1))) else (estreatref02_Pack.l3 k3 t665 x7_1 x10_2 x11_2 (wrap64 (2 * x12_3)) (wrap64 (x13_3 - 1)))) = some (r1, r2) := by rw [← hbq21] at H; exact H
              have Nbq21 := Aside0.mk hbq21
              clear hbq21
              by_cases c22 : bq21 = true
              ·subst c22
               have H1 : (estreatref02_Pack.l3 k3 t665 x7_1 x10_2 x11_2 (wrap64 ((wrap64 (2 * x12_3)) + 1)) (wrap64 (x13_3 - 1))) = some (r1, r2) := by rw [if_pos rfl] at H; exact H
               clear H
               have H := H1
               clear H1
               have H' := Aside0.mk H
               clear H
               obtain ⟨Ao23, co23, eo23⟩ := Kd.R_slice HO_7.out
               subst eo23
               have p672 : 0 ≤ ((ji19) : Int) := OD
               have q672 : (ji19) < (x7_1.length : Int) := OD
               obtain ⟨ad672, e672, hx672_0⟩ := Kd.at_bool (Kd.R_reads' HO_7.out).2.2 (ji19) p672 q672
               (try rw [← Nbq21.out] at hx672_0)
               cases e672
               replace p672 := eq_true p672
               replace q672 := eq_true q672
               go_wp2
               go_roundg k3
               case measure => have := HK1.out; have := HK2.out; have := HK3.out; omega
               case rel => exact ⟨(wrap64 ((wrap64 (2 * x12_3)) + 1)), (wrap64 (x13_3 - 1)), EB, EB, H', ⟨by have := HK1.out; have := HK2.out; have := HK3.out; omega⟩, ⟨RU HO_7.out⟩, ⟨RU HO_10.out⟩, ⟨BU HB.out⟩⟩
              ·replace c22 := Bool.eq_false_iff.mpr c22
               subst c22
               have H1 : (estreatref02_Pack.l3 k3 t665 x7_1 x10_2 x11_2 (wrap64 (2 * x12_3)) (wrap64 (x13_3 - 1))) = some (r1, r2) := by rw [if_neg (show ¬ (false = true) by decide)] at H; exact H
               clear H
               have H := H1
               clear H1
               have H' := Aside0.mk H
               clear H
               obtain ⟨Ao24, co24, eo24⟩ := Kd.R_slice HO_7.out
               subst eo24
               have p672 : 0 ≤ ((ji19) : Int) := OD
               have q672 : (ji19) < (x7_1.length : Int) := OD
               obtain ⟨ad672, e672, hx672_0⟩ := Kd.at_bool (Kd.R_reads' HO_7.out).2.2 (ji19) p672 q672
               (try rw [← Nbq21.out] at hx672_0)
               cases e672
               replace p672 := eq_true p672
               replace q672 := eq_true q672
               go_wp2
               go_roundg k3
               case measure => have := HK1.out; have := HK2.out; have := HK3.out; omega
               case rel => exact ⟨(wrap64 (2 * x12_3)), (wrap64 (x13_3 - 1)), EB, EB, H', ⟨by have := HK1.out; have := HK2.out; have := HK3.out; omega⟩, ⟨RU HO_7.out⟩, ⟨RU HO_10.out⟩, ⟨BU HB.out⟩⟩
             ·rw [if_neg c20] at H
              exact absurd H (by simp)
            ·rw [if_neg c18] at H
             have c18b0 : decide ((wrap64 ((wrap64 (8 * x11_2)) + x13_3)) < (x7_1.length : Int)) = false := decide_eq_false c18
             clear c18
             have H' := Aside0.mk H
             clear H
             obtain ⟨Ao25, co25, eo25⟩ := Kd.R_slice HO_7.out
             subst eo25
             go_wp2
             go_roundg k3
             case measure => have := HK1.out; have := HK2.out; have := HK3.out; omega
             case rel => exact ⟨(wrap64 (2 * x12_3)), (wrap64 (x13_3 - 1)), EB, EB, H', ⟨by have := HK1.out; have := HK2.out; have := HK3.out; omega⟩, ⟨RU HO_7.out⟩, ⟨RU HO_10.out⟩, ⟨BU HB.out⟩⟩
           ·rw [if_neg c17] at H
            have c17b0 : decide (0 ≤ x13_3) = false := decide_eq_false c17
            clear c17
            by_cases c26 : x10_2.length < 140737488355328
            ·rw [if_pos c26] at H
             have LMc26 := Aside0.mk c26
             clear c26
             obtain ⟨y673, hy673⟩ : ∃ y_ : List Int, y_ = (x10_2 ++ [(x12_3) % 256]) := ⟨_, rfl⟩
             replace H : (estreatref02_Pack.l2 k3 t665 x7_1 y673 (wrap64 (x11_2 + 1))) = some (r1, r2) := by first | (rw [hy673]; with_reducible exact H) | (have H2_ := (Option.bind_some _ _).symm.trans H; rw [hy673]; with_reducible exact H2_) | (have H2_ := (Option.bind_some _ _).symm.trans H; with_reducible exact H2_) | with_reducible exact H | (rw [hy673]; exact H) | exact H
             have Ny673 := Aside0.mk hy673
             clear hy673
             have H' := Aside0.mk H
             clear H
             go_wp2_with (first | ((with_reducible refine gate_builtin (b := .append) (xs := #[.tmp 73, .tmp 76]) rfl ?_); at_builtin; refine Kd.R_append (Kd.int .u8) (w0 := w) w.heap.size rfl (.tmp 73) (.tmp 76) 25 5 (.int .u8 0) 1 rfl Tryz.underlying25 info5 rfl (by decide) (by omega) u10 x10_2 ((x12_3) % 256) [.int .u8 ((x12_3) % 256)] (fun _ => True) (fun _ => False) rfl rfl ?aP (fun _ hk => hk.elim) ?aF ?aO ?aB ?aS ?aL ?_; (case aP => exact rfl); (case aB => exact (BU HB.out)); (case aF => exact (fun _ _ => trivial)); (case aO => exact (RU HO_10.out)); (case aS => exact (below_size (BU HB.out))); (case aL => have := LMc26.out; omega); intro v674 w27 ho hb hg hat; rw [← Ny673.out] at ho; have n0_ := Aside0.mk (Kd.R_over' (RU HO_7.out) (Kd.R_typed (RU HO_10.out)) (by decide) hg); have n1_ := Aside0.mk (hb); have n2_ := Aside0.mk (ho); clear HO_7 HB HO_10; have HO_7 := n0_; have HB := n1_; have HO675 := n2_; clear n0_ n1_ n2_; clear ho hb hg hat))
             go_roundg k3
             case measure => have := HK1.out; have := HK2.out; have := HK3.out; omega
             case rel => exact ⟨(y673), (wrap64 (x11_2 + 1)), EB, H', ⟨by have := HK1.out; have := HK2.out; have := HK3.out; omega⟩, ⟨RU HO_7.out⟩, ⟨RU HO675.out⟩, ⟨BU HB.out⟩⟩
            ·rw [if_neg c26] at H
             exact absurd H (by simp)
        ·rw [if_neg c16] at H
         have c16b0 : decide (x11_2 < t665) = false := decide_eq_false c16
         clear c16
         simp only [Option.some.injEq, Prod.mk.injEq] at H
         obtain ⟨rfl, rfl⟩ := H
         go_wp2
         go_ret2
         exact ⟨_, by first | rfl | (simp [errW_none, errW_some] <;> rfl) | (simp [*, errW_none, errW_some] <;> rfl), RU HO_10.out, BU HB.out⟩

end Go.Proofs.YtefcchpjbojdkaaGreatDoor.PChunkPuts
