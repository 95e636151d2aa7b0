/- WRITTEN BY A PROGRAM of this session (wip/tool: a turned copy of the printer), out of the translation: Lean functions with the answers of the Go functions, and the proofs that the Go code comes to them. -/
import Derived.Test.YtefcchpjbojdkaaGreatDoorPChunkPutsx0
import Derived.Test.YtefcchpjbojdkaaGreatDoorPChunkPutsx3
import Derived.Test.YtefcchpjbojdkaaGreatDoorPChunkPutsx4
import Derived.Test.YtefcchpjbojdkaaGreatDoorPChunkPutsx5
import Derived.Test.YtefcchpjbojdkaaGreatDoorPChunkPutsx6
import Derived.Test.YtefcchpjbojdkaaGreatDoorPChunkPutsx7
namespace Go.Proofs.YtefcchpjbojdkaaGreatDoor.PChunkPuts
open Go.RowKit Go.Proofs.YtefcchpjbojdkaaGreatDoorW.PrintWords Go.Proofs.YtefcchpjbojdkaaGreatDoorW.PrintLast Go.Proofs.YtefcchpjbojdkaaGreatDoorW.PrintMore
attribute [local go_sem] max2_int min2_int max_two min_two max_three min_three max_four min_four   -- for this text's walks alone
set_option linter.unusedVariables false
set_option linter.unusedSimpArgs false

/-! ### delta_Steps: function 86 -/
def delta_Steps.l0 : Nat → List Int → Int → List Int → Int → Int → Option (List Int)
 | 0, _, _, _, _, _ => none
 | k + 1, x3, x4, x7, x8, x9 => if x9 < x8 then (if 0 ≤ x9 then (if x9 < (x7.length : Int) then (if x3.length < 17592186044416 then (delta_Steps.l0 k (x3 ++ [wrap64 ((rd x7 x9) - x4)]) (rd x7 x9) x7 x8 (wrap64 (x9 + 1))) else (none)) else (none)) else (none)) else (some x3)
def delta_Steps.f (k : Nat) (l0 : List Int) : Option (List Int) := delta_Steps.l0 k ([] : List Int) 0 l0 (l0.length : Int) 0
set_option maxHeartbeats 8000000 in
set_option maxRecDepth 100000 in
theorem delta_Steps.calls (k : Nat) (A0 : Option Addr) (c0 : Nat) (l0 : List Int) (r : List Int) (w : World) (hr0 : Kd.C (Kd.int .i64) w A0 l0.length l0) (hc0 : l0.length ≤ c0) (h : delta_Steps.f k l0 = some r) :
  Calls Tryz.prog 86 #[.slice A0 l0.length c0] w fun e w' => ∃ v0_ : Value, e = .returned (v0_) ∧ Kd.R (Kd.int .i64) 2 w' w.heap.size (fun _ => True) v0_ r ∧ Below w.heap.size w w' := by
 have HR0 := Aside0.mk hr0
 have HC0 := Aside0.mk hc0
 clear hr0 hc0
 have HB := Aside0.mk (Below.refl w.heap.size w)
 have H : (delta_Steps.l0 k ([] : List Int) 0 l0 (l0.length : Int) 0) = some r := h
 clear h
 have H' := Aside0.mk H
 clear H
 go_enter Tryz.func86, Tryz.ntmps86
 go_wp2
 go_loopg [3, 4, 9] k (fun kq v3 v4 v9 w' => ∃ (x3_1 : List Int) (x4_1 : Int) (x9_1 : Int), v4 = .int .i64 x4_1 ∧ v9 = .int .i64 x9_1 ∧ Aside0 (delta_Steps.l0 kq x3_1 x4_1 l0 (l0.length : Int) x9_1 = some r) ∧ Aside0 (kq ≤ k) ∧ Aside0 (Kd.R (Kd.int .i64) 2 w' w.heap.size (fun _ => True) v3 x3_1) ∧ Aside0 (Below w.heap.size w w'))
 case atStart => exact ⟨(([] : List Int)), (0), (0), EB, EB, H', ⟨Nat.le_refl _⟩, ⟨by first | exact Kd.R_nil _ _ _ _ _ | exact Kd.N_nil _ _ _ _ _ | exact Kd.V_nil _ _ _ _ _ | exact Kd.Q_nil _ _ _ _ _ | exact Kd.S_nil _ _ _ _ _⟩, ⟨BU HB.out⟩⟩
 case round =>
  clear H'
  obtain ⟨x3_1, x4_1, x9_1, rfl, rfl, HA, HK1, HO_3, HB⟩ := hrel
  cases gk with
  | zero => exact absurd HA.out (by simp [delta_Steps.l0])
  | succ k1 =>
   have H := HA.out
   clear HA
   simp only [delta_Steps.l0] at H
   by_cases c2 : x9_1 < (l0.length : Int)
   ·rw [if_pos c2] at H
    have c2b0 : decide (x9_1 < (l0.length : Int)) = true := decide_eq_true c2
    clear c2
    by_cases c3 : 0 ≤ x9_1
    ·rw [if_pos c3] at H
     have c3b0 : decide (0 ≤ x9_1) = true := decide_eq_true c3
     clear c3
     by_cases c4 : x9_1 < (l0.length : Int)
     ·rw [if_pos c4] at H
      have c4b0 : decide (x9_1 < (l0.length : Int)) = true := decide_eq_true c4
      clear c4
      by_cases c5 : x3_1.length < 17592186044416
      ·rw [if_pos c5] at H
       have LMc5 := Aside0.mk c5
       clear c5
       obtain ⟨y228, hy228⟩ : ∃ y_ : List Int, y_ = (x3_1 ++ [wrap64 ((rd l0 x9_1) - x4_1)]) := ⟨_, rfl⟩
       replace H : (delta_Steps.l0 k1 y228 (rd l0 x9_1) l0 (l0.length : Int) (wrap64 (x9_1 + 1))) = some r := by first | (rw [hy228]; with_reducible exact H) | (have H2_ := (Option.bind_some _ _).symm.trans H; rw [hy228]; with_reducible exact H2_) | (have H2_ := (Option.bind_some _ _).symm.trans H; with_reducible exact H2_) | with_reducible exact H | (rw [hy228]; exact H) | exact H
       have Ny228 := Aside0.mk hy228
       clear hy228
       have H' := Aside0.mk H
       clear H
       have p227 : 0 ≤ (x9_1 : Int) := OD
       have q227 : x9_1 < (l0.length : Int) := OD
       obtain ⟨ad227, e227, hx227_0⟩ := Kd.at_int HR0.out x9_1 p227 q227
       cases e227
       replace hx227_0 := (HB.out.cell (World.block_lt_of_cell? w _ hx227_0)).trans hx227_0
       replace p227 := eq_true p227
       replace q227 := eq_true q227
       go_wp2_with (first | ((with_reducible refine gate_builtin (b := .append) (xs := #[.tmp 13, .tmp 17]) rfl ?_); at_builtin; refine Kd.R_append (Kd.int .i64) (w0 := w) w.heap.size rfl (.tmp 13) (.tmp 17) 41 2 (.int .i64 0) 8 rfl Tryz.underlying41 info2 rfl (by decide) (by omega) u3 x3_1 (wrap64 ((rd l0 x9_1) - x4_1)) [.int .i64 (wrap64 ((rd l0 x9_1) - x4_1))] (fun _ => True) (fun _ => False) rfl rfl ?aP (fun _ hk => hk.elim) ?aF ?aO ?aB ?aS ?aL ?_; (case aP => exact rfl); (case aB => exact (BU HB.out)); (case aF => exact (fun _ _ => trivial)); (case aO => exact (RU HO_3.out)); (case aS => exact (below_size (BU HB.out))); (case aL => have := LMc5.out; omega); intro v229 w6 ho hb hg hat; rw [← Ny228.out] at ho; have n0_ := Aside0.mk (hb); have n1_ := Aside0.mk (ho); clear HB HO_3; have HB := n0_; have HO230 := n1_; clear n0_ n1_; clear ho hb hg hat))
       go_roundg k1
       case measure => have := HK1.out; omega
       case rel => exact ⟨(y228), (rd l0 x9_1), (wrap64 (x9_1 + 1)), EB, EB, H', ⟨by have := HK1.out; omega⟩, ⟨RU HO230.out⟩, ⟨BU HB.out⟩⟩
      ·rw [if_neg c5] at H
       exact absurd H (by simp)
     ·rw [if_neg c4] at H
      exact absurd H (by simp)
    ·rw [if_neg c3] at H
     exact absurd H (by simp)
   ·rw [if_neg c2] at H
    have c2b0 : decide (x9_1 < (l0.length : Int)) = false := decide_eq_false c2
    clear c2
    obtain rfl := Option.some.inj H
    go_wp2
    go_ret
    exact ⟨_, by first | rfl | (simp [errW_none, errW_some] <;> rfl) | (simp [*, errW_none, errW_some] <;> rfl), RU HO_3.out, BU HB.out⟩

/-! ### bits_Len64: function 107 -/
def bits_Len64.f (a0 : Int) : Option (Int) := if 0 ≤ a0 then (if a0 ≤ 18446744073709551615 then some (Lib.bitLen a0.toNat : Int) else none) else none
theorem bits_Len64.calls (a0 : Int) (r : Int) (w : World) (h : bits_Len64.f a0 = some r) :
  Calls Tryz.prog 107 #[.int .u64 a0] w fun e w' => e = .returned (.int .i64 r) ∧ Drawn0 w w' := by
 unfold bits_Len64.f at h
 by_cases h0 : 0 ≤ a0
 ·rw [if_pos h0] at h
  by_cases h1 : a0 ≤ 18446744073709551615
  ·rw [if_pos h1] at h
   obtain rfl := Option.some.inj h
   exact (Go.Proofs.Tryz.bits_Len64 a0 w h0 h1).mono fun e w' ⟨he, hw⟩ => ⟨he, by rw [hw]; exact Drawn0.refl _⟩
  ·rw [if_neg h1] at h; cases h
 ·rw [if_neg h0] at h; cases h

/-! ### bits_Width: function 87 -/
def bits_Width.l0 : Nat → Int → List Int → Int → Int → Option (Int)
 | 0, _, _, _, _ => none
 | k + 1, x3, x6, x7, x8 => if x8 < x7 then (if 0 ≤ x8 then (if x8 < (x6.length : Int) then (bits_Width.l0 k (Go.bits .or .u64 x3 (rd x6 x8)) x6 x7 (wrap64 (x8 + 1))) else (none)) else (none)) else ((bits_Len64.f x3).bind fun t232 => (some t232))
def bits_Width.f (k : Nat) (l0 : List Int) : Option (Int) := bits_Width.l0 k 0 l0 (l0.length : Int) 0
set_option maxHeartbeats 8000000 in
set_option maxRecDepth 100000 in
theorem bits_Width.calls (k : Nat) (A0 : Option Addr) (c0 : Nat) (l0 : List Int) (r : Int) (w : World) (hr0 : Kd.C (Kd.int .u64) w A0 l0.length l0) (hc0 : l0.length ≤ c0) (h : bits_Width.f k l0 = some r) :
  Calls Tryz.prog 87 #[.slice A0 l0.length c0] w fun e w' => e = .returned (.int .i64 r) ∧ Drawn0 w w' := by
 have HR0 := Aside0.mk hr0
 have HC0 := Aside0.mk hc0
 clear hr0 hc0
 have H : (bits_Width.l0 k 0 l0 (l0.length : Int) 0) = some r := h
 clear h
 have H' := Aside0.mk H
 clear H
 go_enter Tryz.func87, Tryz.ntmps87
 go_wp2
 go_loopg [3, 8] k (fun kq v3 v8 w' => ∃ (x3_1 : Int) (x8_1 : Int), v3 = .int .u64 x3_1 ∧ v8 = .int .i64 x8_1 ∧ Aside0 (bits_Width.l0 kq x3_1 l0 (l0.length : Int) x8_1 = some r) ∧ Aside0 (kq ≤ k) ∧ Drawn0 w w')
 case atStart => exact ⟨(0), (0), EB, EB, H', ⟨Nat.le_refl _⟩, by repeat (first | exact Drawn0.refl _ | apply Drawn0.step)⟩
 case round =>
  clear H'
  obtain ⟨x3_1, x8_1, rfl, rfl, HA, HK1, ⟨m1, rfl⟩⟩ := hrel
  cases gk with
  | zero => exact absurd HA.out (by simp [bits_Width.l0])
  | succ k1 =>
   have H := HA.out
   clear HA
   simp only [bits_Width.l0] at H
   by_cases c2 : x8_1 < (l0.length : Int)
   ·rw [if_pos c2] at H
    have c2b0 : decide (x8_1 < (l0.length : Int)) = true := decide_eq_true c2
    clear c2
    by_cases c3 : 0 ≤ x8_1
    ·rw [if_pos c3] at H
     have c3b0 : decide (0 ≤ x8_1) = true := decide_eq_true c3
     clear c3
     by_cases c4 : x8_1 < (l0.length : Int)
     ·rw [if_pos c4] at H
      have c4b0 : decide (x8_1 < (l0.length : Int)) = true := decide_eq_true c4
      clear c4
      have H' := Aside0.mk H
      clear H
      have p231 : 0 ≤ (x8_1 : Int) := OD
      have q231 : x8_1 < (l0.length : Int) := OD
      obtain ⟨ad231, e231, hx231_0⟩ := Kd.at_int HR0.out x8_1 p231 q231
      cases e231
      replace p231 := eq_true p231
      replace q231 := eq_true q231
      go_wp2
      go_roundg k1
      case measure => have := HK1.out; omega
      case rel => exact ⟨(Go.bits .or .u64 x3_1 (rd l0 x8_1)), (wrap64 (x8_1 + 1)), EB, EB, H', ⟨by have := HK1.out; omega⟩, by repeat (first | exact Drawn0.refl _ | apply Drawn0.step)⟩
     ·rw [if_neg c4] at H
      exact absurd H (by simp)
    ·rw [if_neg c3] at H
     exact absurd H (by simp)
   ·rw [if_neg c2] at H
    have c2b0 : decide (x8_1 < (l0.length : Int)) = false := decide_eq_false c2
    clear c2
    replace H := Option.bind_eq_some_iff.mp H
    obtain ⟨t232, A50, H⟩ := H
    replace H : (some t232) = some r := H
    have A5 := Aside0.mk A50
    clear A50
    obtain rfl := Option.some.inj H
    go_wp2_with (first | ((with_reducible refine gate_callee (f := 107) rfl ?_); refine goesL_ (some 17) rfl rfl Tryz.func107 (by kernel_rfl) rfl #[.int .u64 x3_1] rfl EA ?_; (with_reducible refine (bits_Len64.calls x3_1 t232 _ A5.out).mono ?_); rintro e w' ⟨rfl, ⟨nd, rfl⟩⟩; refine ⟨_, rfl, ?_⟩))
    go_ret
    exact ⟨by first | rfl | (simp; done) | (simp [*]; done), by repeat (first | exact Drawn0.refl _ | apply Drawn0.step)⟩

/-! ### delta_Put: function 48 -/
def delta_Put.f (k : Nat) (l0 : List Int) : Option (List Int × Int) := if (l0.length : Int) > 65536 then (some (([] : List Int), 12)) else ((delta_Steps.f k l0).bind fun t233 => ((delta_zigs.f k t233).bind fun t236 => (if (t236.length : Int) = 1 then (if 0 < (t236.length : Int) then ((num_PutVar.f k ([] : List Int) (rd t236 0)).bind fun t240 => (some (t240, 0))) else (none)) else (if (t236.length : Int) = 0 then (some (([] : List Int), 0)) else (if 1 ≤ (t236.length : Int) then ((some (t236.drop 1 : List Int)).bind fun y243 => ((bits_Width.f k y243).bind fun t247 => ((bits_Pack.f k y243 t247).bind fun bt248 => ((some (([(t247) % 256] : List Int) : List Int)).bind fun y252 => (if y252.length + bt248.1.length < 140737488355328 then ((some (y252 ++ bt248.1 : List Int)).bind fun y255 => (if 0 < (t236.length : Int) then ((num_PutVar.f k ([] : List Int) (rd t236 0)).bind fun t259 => (if t259.length + y255.length < 140737488355328 then (some ((t259 ++ y255), bt248.2)) else (none))) else (none))) else (none)))))) else (none))))))
set_option maxHeartbeats 8000000 in
set_option maxRecDepth 100000 in
theorem delta_Put.calls (k : Nat) (A0 : Option Addr) (c0 : Nat) (l0 : List Int) (r1 : List Int) (r2 : Int) (w : World) (hr0 : Kd.C (Kd.int .i64) w A0 l0.length l0) (hc0 : l0.length ≤ c0) (h : delta_Put.f k l0 = some (r1, r2)) :
  Calls Tryz.prog 48 #[.slice A0 l0.length c0] w fun e w' => ∃ v0_ : Value, e = .returned (.tuple #[v0_, .int .i64 r2]) ∧ Kd.R (Kd.int .u8) 5 w' w.heap.size (fun _ => True) v0_ r1 ∧ Below w.heap.size w w' := by
 have HR0 := Aside0.mk hr0
 have HC0 := Aside0.mk hc0
 clear hr0 hc0
 have HB := Aside0.mk (Below.refl w.heap.size w)
 have H : (if (l0.length : Int) > 65536 then (some (([] : List Int), 12)) else ((delta_Steps.f k l0).bind fun t233 => ((delta_zigs.f k t233).bind fun t236 => (if (t236.length : Int) = 1 then (if 0 < (t236.length : Int) then ((num_PutVar.f k ([] : List Int) (rd t236 0)).bind fun t240 => (some (t240, 0))) else (none)) else (if (t236.length : Int) = 0 then (some (([] : List Int), 0)) else (if 1 ≤ (t236.length : Int) then ((some (t236.drop 1 : List Int)).bind fun y243 => ((bits_Width.f k y243).bind fun t247 => ((bits_Pack.f k y243 t247).bind fun bt248 => ((some (([(t247) % 256] : List Int) : List Int)).bind fun y252 => (if y252.length + bt248.1.length < 140737488355328 then ((some (y252 ++ bt248.1 : List Int)).bind fun y255 => (if 0 < (t236.length : Int) then ((num_PutVar.f k ([] : List Int) (rd t236 0)).bind fun t259 => (if t259.length + y255.length < 140737488355328 then (some ((t259 ++ y255), bt248.2)) else (none))) else (none))) else (none)))))) else (none))))))) = some (r1, r2) := h
 clear h
 by_cases c2 : (l0.length : Int) > 65536
 ·rw [if_pos c2] at H
  have c2b0 : decide (65536 < (l0.length : Int)) = true := decide_eq_true c2
  have c2b1 : decide (65536 < l0.length) = true := decide_eq_true (by omega)
  clear c2
  simp only [Option.some.injEq, Prod.mk.injEq] at H
  obtain ⟨rfl, rfl⟩ := H
  go_enter Tryz.func48, Tryz.ntmps48
  go_wp2
  go_ret2
  exact ⟨_, by first | rfl | (simp [errW_none, errW_some] <;> rfl) | (simp [*, errW_none, errW_some] <;> rfl), by first | exact Kd.R_nil _ _ _ _ _ | exact Kd.N_nil _ _ _ _ _ | exact Kd.V_nil _ _ _ _ _ | exact Kd.Q_nil _ _ _ _ _ | exact Kd.S_nil _ _ _ _ _, BU HB.out⟩
 ·rw [if_neg c2] at H
  have c2b0 : decide (65536 < (l0.length : Int)) = false := decide_eq_false c2
  have c2b1 : decide (65536 < l0.length) = false := decide_eq_false (by omega)
  clear c2
  replace H := Option.bind_eq_some_iff.mp H
  obtain ⟨t233, A30, H⟩ := H
  replace H : ((delta_zigs.f k t233).bind fun t236 => (if (t236.length : Int) = 1 then (if 0 < (t236.length : Int) then ((num_PutVar.f k ([] : List Int) (rd t236 0)).bind fun t240 => (some (t240, 0))) else (none)) else (if (t236.length : Int) = 0 then (some (([] : List Int), 0)) else (if 1 ≤ (t236.length : Int) then ((some (t236.drop 1 : List Int)).bind fun y243 => ((bits_Width.f k y243).bind fun t247 => ((bits_Pack.f k y243 t247).bind fun bt248 => ((some (([(t247) % 256] : List Int) : List Int)).bind fun y252 => (if y252.length + bt248.1.length < 140737488355328 then ((some (y252 ++ bt248.1 : List Int)).bind fun y255 => (if 0 < (t236.length : Int) then ((num_PutVar.f k ([] : List Int) (rd t236 0)).bind fun t259 => (if t259.length + y255.length < 140737488355328 then (some ((t259 ++ y255), bt248.2)) else (none))) else (none))) else (none)))))) else (none))))) = some (r1, r2) := H
  have A3 := Aside0.mk A30
  clear A30
  replace H := Option.bind_eq_some_iff.mp H
  obtain ⟨t236, A40, H⟩ := H
  replace H : (if (t236.length : Int) = 1 then (if 0 < (t236.length : Int) then ((num_PutVar.f k ([] : List Int) (rd t236 0)).bind fun t240 => (some (t240, 0))) else (none)) else (if (t236.length : Int) = 0 then (some (([] : List Int), 0)) else (if 1 ≤ (t236.length : Int) then ((some (t236.drop 1 : List Int)).bind fun y243 => ((bits_Width.f k y243).bind fun t247 => ((bits_Pack.f k y243 t247).bind fun bt248 => ((some (([(t247) % 256] : List Int) : List Int)).bind fun y252 => (if y252.length + bt248.1.length < 140737488355328 then ((some (y252 ++ bt248.1 : List Int)).bind fun y255 => (if 0 < (t236.length : Int) then ((num_PutVar.f k ([] : List Int) (rd t236 0)).bind fun t259 => (if t259.length + y255.length < 140737488355328 then (some ((t259 ++ y255), bt248.2)) else (none))) else (none))) else (none)))))) else (none)))) = some (r1, r2) := H
  have A4 := Aside0.mk A40
  clear A40
  by_cases c5 : (t236.length : Int) = 1
  ·rw [if_pos c5] at H
   have c5b0 : ((t236.length : Int) == 1) = true := beq_iff_eq.mpr c5
   have c5b1 : ((t236.length : Int) != 1) = false := bne_eq_false_iff_eq.mpr c5
   clear c5
   by_cases c6 : 0 < (t236.length : Int)
   ·rw [if_pos c6] at H
    have c6b0 : decide (0 < (t236.length : Int)) = true := decide_eq_true c6
    have c6b1 : decide (0 < t236.length) = true := decide_eq_true (by omega)
    clear c6
    replace H := Option.bind_eq_some_iff.mp H
    obtain ⟨t240, A70, H⟩ := H
    replace H : (some (t240, 0)) = some (r1, r2) := H
    have A7 := Aside0.mk A70
    clear A70
    simp only [Option.some.injEq, Prod.mk.injEq] at H
    obtain ⟨rfl, rfl⟩ := H
    go_enter Tryz.func48, Tryz.ntmps48
    go_wp2_with (first | ((with_reducible refine gate_callee (f := 86) rfl ?_); refine goesL_ (some 13) rfl rfl Tryz.func86 (by kernel_rfl) rfl #[.slice A0 l0.length c0] rfl EA ?_; (with_reducible refine (delta_Steps.calls k _ _ l0 t233 _ ?side1 ?side2 A3.out).mono ?_); (case side1 => exact CU HR0.out); (case side2 => exact HC0.out); rintro e w8 ⟨v234, rfl, ho0, hb⟩; refine ⟨_, rfl, ?_⟩; have n0_ := Aside0.mk (Kd.R_lower ho0 (below_size (BU HB.out))); have n1_ := Aside0.mk (below_step (BU HB.out) hb); clear HB; have HO235 := n0_; have HB := n1_; clear n0_ n1_; (try clear hb); (try clear hb2); (try clear hk); (try clear hi); (try clear ho0); obtain ⟨Ao9, co9, eo9⟩ := Kd.R_slice HO235.out; subst eo9) | ((with_reducible refine gate_callee (f := 85) rfl ?_); refine goesL_ (some 14) rfl rfl Tryz.func85 (by kernel_rfl) rfl #[.slice Ao9 t233.length co9] rfl EA ?_; (with_reducible refine (delta_zigs.calls k _ _ t233 t236 _ ?side1 ?side2 A4.out).mono ?_); (case side1 => exact CU ((Kd.R_reads' HO235.out).2.2)); (case side2 => exact (Kd.R_reads' HO235.out).2.1); rintro e w10 ⟨v237, rfl, ho0, hb⟩; refine ⟨_, rfl, ?_⟩; have n0_ := Aside0.mk (Kd.R_below (RU HO235.out) hb); have n1_ := Aside0.mk (Kd.R_lower ho0 (below_size (BU HB.out))); have n2_ := Aside0.mk (below_step (BU HB.out) hb); clear HO235 HB; have HO235 := n0_; have HO238 := n1_; have HB := n2_; clear n0_ n1_ n2_; (try clear hb); (try clear hb2); (try clear hk); (try clear hi); (try clear ho0); obtain ⟨Ao11, co11, eo11⟩ := Kd.R_slice HO238.out; subst eo11; have p239 : 0 ≤ (0 : Int) := (by omega); have q239 : 0 < (t236.length : Int) := OD; obtain ⟨ad239, e239, hx239_0⟩ := Kd.at_int (Kd.R_reads' HO238.out).2.2 0 p239 q239; cases e239; have qi239 : (0 < t236.length) = True := eq_true (by omega); (try rw [show ((0 : Int)).toNat = 0 from rfl] at hx239_0); (try rw [Addr.add_zero'] at hx239_0); replace p239 := eq_true p239; replace q239 := eq_true q239) | ((with_reducible refine gate_callee (f := 39) rfl ?_); refine goesL_ (some 39) rfl rfl Tryz.func39 (by kernel_rfl) rfl #[.slice none 0 0, .int .u64 (rd t236 0)] rfl EA ?_; (refine (num_PutVar.calls k (fun k_ => some k_ = (.slice none 0 0 : Value).ownBlock) (.slice none 0 0) ([] : List Int) (rd t236 0) t240 w _ ?side1 ?side2 A7.out).mono ?_); (case side1 => repeat (first | (with_reducible first | exact HB.out | apply below_alloc | apply pw_below_drewN | apply below_drew1) | exact HB.out)); (case side2 => exact Kd.R_nil _ _ _ _ _); rintro e w12 ⟨v241, rfl, ho0, hb, hkp⟩; refine ⟨_, rfl, ?_⟩; have n0_ := Aside0.mk (Kd.R_mono (ok' := fun k_ => True) (Kd.R_keptB (HO235.out) hkp (fun k_ hk_ hs_ => (fun e_ => by simp [Value.ownBlock] at e_) hs_)) (fun k_ hk_ => trivial)); have n1_ := Aside0.mk (Kd.R_mono (ok' := fun k_ => True) (Kd.R_keptB (HO238.out) hkp (fun k_ hk_ hs_ => (fun e_ => by simp [Value.ownBlock] at e_) hs_)) (fun k_ hk_ => trivial)); have n2_ := Aside0.mk (Kd.R_mono (ok' := fun k_ => True) ho0 (fun k_ hk_ => trivial)); have n3_ := Aside0.mk (hb); clear HO235 HO238 HB; have HO235 := n0_; have HO238 := n1_; have HO242 := n2_; have HB := n3_; clear n0_ n1_ n2_ n3_; (try clear hb); (try clear hkp); (try clear ho0)) | ((with_reducible refine gate_builtin (b := .append) (xs := #[.tmp 39, .tmp 40]) rfl ?_); at_builtin; refine R_append_nil (Kd.int .u8) w.heap.size rfl (.tmp 39) (.tmp 40) 25 5 (.int .u8 0) 1 rfl Tryz.underlying25 info5 v241 t240 _ rfl rfl (RU HO242.out) ?_))
    go_ret2
    exact ⟨_, by first | rfl | (simp [errW_none, errW_some] <;> rfl) | (simp [*, errW_none, errW_some] <;> rfl), RU HO242.out, BU HB.out⟩
   ·rw [if_neg c6] at H
    exact absurd H (by simp)
  ·rw [if_neg c5] at H
   have c5b0 : ((t236.length : Int) == 1) = false := beq_eq_false_iff_ne.mpr c5
   have c5b1 : ((t236.length : Int) != 1) = true := bne_iff_ne.mpr c5
   by_cases c13 : (t236.length : Int) = 0
   ·rw [if_pos c13] at H
    have c13b0 : ((t236.length : Int) == 0) = true := beq_iff_eq.mpr c13
    have c13b1 : ((t236.length : Int) != 0) = false := bne_eq_false_iff_eq.mpr c13
    clear c13
    simp only [Option.some.injEq, Prod.mk.injEq] at H
    obtain ⟨rfl, rfl⟩ := H
    go_enter Tryz.func48, Tryz.ntmps48
    go_wp2_with (first | ((with_reducible refine gate_callee (f := 86) rfl ?_); refine goesL_ (some 13) rfl rfl Tryz.func86 (by kernel_rfl) rfl #[.slice A0 l0.length c0] rfl EA ?_; (with_reducible refine (delta_Steps.calls k _ _ l0 t233 _ ?side1 ?side2 A3.out).mono ?_); (case side1 => exact CU HR0.out); (case side2 => exact HC0.out); rintro e w14 ⟨v234, rfl, ho0, hb⟩; refine ⟨_, rfl, ?_⟩; have n0_ := Aside0.mk (Kd.R_lower ho0 (below_size (BU HB.out))); have n1_ := Aside0.mk (below_step (BU HB.out) hb); clear HB; have HO235 := n0_; have HB := n1_; clear n0_ n1_; (try clear hb); (try clear hb2); (try clear hk); (try clear hi); (try clear ho0); obtain ⟨Ao15, co15, eo15⟩ := Kd.R_slice HO235.out; subst eo15) | ((with_reducible refine gate_callee (f := 85) rfl ?_); refine goesL_ (some 14) rfl rfl Tryz.func85 (by kernel_rfl) rfl #[.slice Ao15 t233.length co15] rfl EA ?_; (with_reducible refine (delta_zigs.calls k _ _ t233 t236 _ ?side1 ?side2 A4.out).mono ?_); (case side1 => exact CU ((Kd.R_reads' HO235.out).2.2)); (case side2 => exact (Kd.R_reads' HO235.out).2.1); rintro e w16 ⟨v237, rfl, ho0, hb⟩; refine ⟨_, rfl, ?_⟩; have n0_ := Aside0.mk (Kd.R_below (RU HO235.out) hb); have n1_ := Aside0.mk (Kd.R_lower ho0 (below_size (BU HB.out))); have n2_ := Aside0.mk (below_step (BU HB.out) hb); clear HO235 HB; have HO235 := n0_; have HO238 := n1_; have HB := n2_; clear n0_ n1_ n2_; (try clear hb); (try clear hb2); (try clear hk); (try clear hi); (try clear ho0); obtain ⟨Ao17, co17, eo17⟩ := Kd.R_slice HO238.out; subst eo17))
    go_ret2
    exact ⟨_, by first | rfl | (simp [errW_none, errW_some] <;> rfl) | (simp [*, errW_none, errW_some] <;> rfl), by first | exact Kd.R_nil _ _ _ _ _ | exact Kd.N_nil _ _ _ _ _ | exact Kd.V_nil _ _ _ _ _ | exact Kd.Q_nil _ _ _ _ _ | exact Kd.S_nil _ _ _ _ _, BU HB.out⟩
   ·rw [if_neg c13] at H
    have c13b0 : ((t236.length : Int) == 0) = false := beq_eq_false_iff_ne.mpr c13
    have c13b1 : ((t236.length : Int) != 0) = true := bne_iff_ne.mpr c13
    have c13b2 : ¬ (t236 = []) := fun h_ => c13 (by rw [h_]; rfl)
    by_cases c18 : 1 ≤ (t236.length : Int)
    ·rw [if_pos c18] at H
     have c18b0 := eq_true c18
     have c18b1 : decide (1 ≤ (t236.length : Int)) = true := decide_eq_true c18
     clear c18
     obtain ⟨y243, hy243⟩ : ∃ y_ : List Int, y_ = (t236.drop 1) := ⟨_, rfl⟩
     replace H : ((bits_Width.f k y243).bind fun t247 => ((bits_Pack.f k y243 t247).bind fun bt248 => ((some (([(t247) % 256] : List Int) : List Int)).bind fun y252 => (if y252.length + bt248.1.length < 140737488355328 then ((some (y252 ++ bt248.1 : List Int)).bind fun y255 => (if 0 < (t236.length : Int) then ((num_PutVar.f k ([] : List Int) (rd t236 0)).bind fun t259 => (if t259.length + y255.length < 140737488355328 then (some ((t259 ++ y255), bt248.2)) else (none))) else (none))) else (none))))) = some (r1, r2) := by first | (rw [hy243]; with_reducible exact H) | (have H2_ := (Option.bind_some _ _).symm.trans H; rw [hy243]; with_reducible exact H2_) | (have H2_ := (Option.bind_some _ _).symm.trans H; with_reducible exact H2_) | with_reducible exact H | (rw [hy243]; exact H) | exact H
     have Ny243 := Aside0.mk hy243
     clear hy243
     replace H := Option.bind_eq_some_iff.mp H
     obtain ⟨t247, A190, H⟩ := H
     replace H : ((bits_Pack.f k y243 t247).bind fun bt248 => ((some (([(t247) % 256] : List Int) : List Int)).bind fun y252 => (if y252.length + bt248.1.length < 140737488355328 then ((some (y252 ++ bt248.1 : List Int)).bind fun y255 => (if 0 < (t236.length : Int) then ((num_PutVar.f k ([] : List Int) (rd t236 0)).bind fun t259 => (if t259.length + y255.length < 140737488355328 then (some ((t259 ++ y255), bt248.2)) else (none))) else (none))) else (none)))) = some (r1, r2) := H
     have A19 := Aside0.mk A190
     clear A190
     replace H := Option.bind_eq_some_iff.mp H
     obtain ⟨⟨t248, t249⟩, A200, H⟩ := H
     replace H : ((some (([(t247) % 256] : List Int) : List Int)).bind fun y252 => (if y252.length + t248.length < 140737488355328 then ((some (y252 ++ t248 : List Int)).bind fun y255 => (if 0 < (t236.length : Int) then ((num_PutVar.f k ([] : List Int) (rd t236 0)).bind fun t259 => (if t259.length + y255.length < 140737488355328 then (some ((t259 ++ y255), t249)) else (none))) else (none))) else (none))) = some (r1, r2) := H
     have A20 := Aside0.mk A200
     clear A200
     obtain ⟨y252, hy252⟩ : ∃ y_ : List Int, y_ = (([(t247) % 256] : List Int)) := ⟨_, rfl⟩
     replace H : (if y252.length + t248.length < 140737488355328 then ((some (y252 ++ t248 : List Int)).bind fun y255 => (if 0 < (t236.length : Int) then ((num_PutVar.f k ([] : List Int) (rd t236 0)).bind fun t259 => (if t259.length + y255.length < 140737488355328 then (some ((t259 ++ y255), t249)) else (none))) else (none))) else (none)) = some (r1, r2) := by first | (rw [hy252]; with_reducible exact H) | (have H2_ := (Option.bind_some _ _).symm.trans H; rw [hy252]; with_reducible exact H2_) | (have H2_ := (Option.bind_some _ _).symm.trans H; with_reducible exact H2_) | with_reducible exact H | (rw [hy252]; exact H) | exact H
     have Ny252 := Aside0.mk hy252
     clear hy252
     by_cases c21 : y252.length + t248.length < 140737488355328
     ·rw [if_pos c21] at H
      have LMc21 := Aside0.mk c21
      clear c21
      obtain ⟨y255, hy255⟩ : ∃ y_ : List Int, y_ = (y252 ++ t248) := ⟨_, rfl⟩
      replace H : (if 0 < (t236.length : Int) then ((num_PutVar.f k ([] : List Int) (rd t236 0)).bind fun t259 => (if t259.length + y255.length < 140737488355328 then (some ((t259 ++ y255), t249)) else (none))) else (none)) = some (r1, r2) := by first | (rw [hy255]; with_reducible exact H) | (have H2_ := (Option.bind_some _ _).symm.trans H; rw [hy255]; with_reducible exact H2_) | (have H2_ := (Option.bind_some _ _).symm.trans H; with_reducible exact H2_) | with_reducible exact H | (rw [hy255]; exact H) | exact H
      have Ny255 := Aside0.mk hy255
      clear hy255
      by_cases c22 : 0 < (t236.length : Int)
      ·rw [if_pos c22] at H
       have c22b0 : decide (0 < (t236.length : Int)) = true := decide_eq_true c22
       have c22b1 : decide (0 < t236.length) = true := decide_eq_true (by omega)
       clear c22
       replace H := Option.bind_eq_some_iff.mp H
       obtain ⟨t259, A230, H⟩ := H
       replace H : (if t259.length + y255.length < 140737488355328 then (some ((t259 ++ y255), t249)) else (none)) = some (r1, r2) := H
       have A23 := Aside0.mk A230
       clear A230
       by_cases c24 : t259.length + y255.length < 140737488355328
       ·rw [if_pos c24] at H
        have LMc24 := Aside0.mk c24
        clear c24
        obtain ⟨y262, hy262⟩ : ∃ y_ : List Int, y_ = (t259 ++ y255) := ⟨_, rfl⟩
        replace H : (some (y262, t249)) = some (r1, r2) := by first | (rw [hy262]; with_reducible exact H) | (have H2_ := (Option.bind_some _ _).symm.trans H; rw [hy262]; with_reducible exact H2_) | (have H2_ := (Option.bind_some _ _).symm.trans H; with_reducible exact H2_) | with_reducible exact H | (rw [hy262]; exact H) | exact H
        have Ny262 := Aside0.mk hy262
        clear hy262
        simp only [Option.some.injEq, Prod.mk.injEq] at H
        obtain ⟨rfl, rfl⟩ := H
        go_enter Tryz.func48, Tryz.ntmps48
        go_wp2_with (first | ((with_reducible refine gate_callee (f := 86) rfl ?_); refine goesL_ (some 13) rfl rfl Tryz.func86 (by kernel_rfl) rfl #[.slice A0 l0.length c0] rfl EA ?_; (with_reducible refine (delta_Steps.calls k _ _ l0 t233 _ ?side1 ?side2 A3.out).mono ?_); (case side1 => exact CU HR0.out); (case side2 => exact HC0.out); rintro e w25 ⟨v234, rfl, ho0, hb⟩; refine ⟨_, rfl, ?_⟩; have n0_ := Aside0.mk (Kd.R_lower ho0 (below_size (BU HB.out))); have n1_ := Aside0.mk (below_step (BU HB.out) hb); clear HB; have HO235 := n0_; have HB := n1_; clear n0_ n1_; (try clear hb); (try clear hb2); (try clear hk); (try clear hi); (try clear ho0); obtain ⟨Ao26, co26, eo26⟩ := Kd.R_slice HO235.out; subst eo26) | ((with_reducible refine gate_callee (f := 85) rfl ?_); refine goesL_ (some 14) rfl rfl Tryz.func85 (by kernel_rfl) rfl #[.slice Ao26 t233.length co26] rfl EA ?_; (with_reducible refine (delta_zigs.calls k _ _ t233 t236 _ ?side1 ?side2 A4.out).mono ?_); (case side1 => exact CU ((Kd.R_reads' HO235.out).2.2)); (case side2 => exact (Kd.R_reads' HO235.out).2.1); rintro e w27 ⟨v237, rfl, ho0, hb⟩; refine ⟨_, rfl, ?_⟩; have n0_ := Aside0.mk (Kd.R_below (RU HO235.out) hb); have n1_ := Aside0.mk (Kd.R_lower ho0 (below_size (BU HB.out))); have n2_ := Aside0.mk (below_step (BU HB.out) hb); clear HO235 HB; have HO235 := n0_; have HO238 := n1_; have HB := n2_; clear n0_ n1_ n2_; (try clear hb); (try clear hb2); (try clear hk); (try clear hi); (try clear ho0); obtain ⟨Ao28, co28, eo28⟩ := Kd.R_slice HO238.out; subst eo28; have q29 : (1 : Int) ≤ ((t236.length : Int) : Int) := OD; obtain ⟨i029, hi029, _, hsz29, _⟩ := info_parts info66; have hroom29 : t236.length ≤ co28 := (Kd.R_reads' HO238.out).2.1; have hC29 : Kd.C (Kd.int .u64) _ Ao28 t236.length t236 := (Kd.R_reads' HO238.out).2.2; have hcut29 := cut_from (P := Tryz.prog) 68 66 .i64 Tryz.underlying68 hi029 1 hsz29 Ao28 t236.length co28 1 (by omega) q29; have hr29 := Kd.C_drop (m := (1 : Int).toNat) (c := co28) hC29 (by omega) hroom29; obtain ⟨A29, hA29⟩ : ∃ A1, A1 = (if co28 = (1 : Int).toNat then Ao28 else (Ao28 : Option Addr).map (·.add ((1 : Int).toNat * 1))) := ⟨_, rfl⟩; obtain ⟨c29, hc29⟩ : ∃ c1, c1 = co28 - (1 : Int).toNat := ⟨_, rfl⟩; have hy29 : y243.length = t236.length - (1 : Int).toNat := (by rw [Ny243.out, List.length_drop] <;> omega); rw [show (t236).drop (1 : Int).toNat = y243 from Ny243.out.symm] at hr29; replace hr29 : Kd.C (Kd.int .u64) _ A29 y243.length y243 := (by rw [hA29]; exact hr29); rw [← hy29, ← hA29, ← hc29] at hcut29; have HR246 := Aside0.mk hr29; have HC246 := Aside0.mk (show y243.length ≤ c29 from by rw [hy29, hc29]; exact Nat.sub_le_sub_right hroom29 _); clear hr29 hC29 hroom29 hi029 hsz29 hc29; have KY29 := Aside0.mk hy29; have KA29 := Aside0.mk hA29; clear hy29 hA29; have KL29 := Aside0.mk (show 1 ≤ t236.length from by omega); replace q29 := eq_true q29) | ((with_reducible refine gate_callee (f := 87) rfl ?_); refine goesL_ (some 23) rfl rfl Tryz.func87 (by kernel_rfl) rfl #[.slice A29 y243.length c29] rfl EA ?_; (with_reducible refine (bits_Width.calls k _ _ y243 t247 _ ?side1 ?side2 A19.out).mono ?_); (case side1 => repeat (first | exact (by repeat (first | (with_reducible exact HR246.out) | (with_reducible refine Kd.C_alloc ?_ _) | (with_reducible refine Kd.C_drewN ?_ _) | (with_reducible refine Kd.C_drew ?_) | exact HR246.out)) | (with_reducible refine Kd.C_alloc ?_ _) | (with_reducible refine Kd.C_drewN ?_ _) | (with_reducible refine Kd.C_drew ?_))); (case side2 => exact HC246.out); rintro e w' ⟨rfl, ⟨nd, rfl⟩⟩; refine ⟨_, rfl, ?_⟩) | ((with_reducible refine gate_callee (f := 43) rfl ?_); refine goesL_ (some 28) rfl rfl Tryz.func43 (by kernel_rfl) rfl #[.slice A29 y243.length c29, .int .i64 t247] rfl EA ?_; (with_reducible refine (bits_Pack.calls k _ _ y243 t247 t248 t249 _ ?side1 ?side2 A20.out).mono ?_); (case side1 => repeat (first | exact (by repeat (first | (with_reducible exact HR246.out) | (with_reducible refine Kd.C_alloc ?_ _) | (with_reducible refine Kd.C_drewN ?_ _) | (with_reducible refine Kd.C_drew ?_) | exact HR246.out)) | (with_reducible refine Kd.C_alloc ?_ _) | (with_reducible refine Kd.C_drewN ?_ _) | (with_reducible refine Kd.C_drew ?_))); (case side2 => exact HC246.out); rintro e w30 ⟨v250, rfl, ho0, hb⟩; refine ⟨_, rfl, ?_⟩; have n0_ := Aside0.mk (Kd.R_below (RU HO235.out) hb); have n1_ := Aside0.mk (Kd.R_below (RU HO238.out) hb); have n2_ := Aside0.mk (Kd.R_lower ho0 (below_size (BU HB.out))); have n3_ := Aside0.mk (Kd.C_below (by repeat (first | (with_reducible exact HR246.out) | (with_reducible refine Kd.C_alloc ?_ _) | (with_reducible refine Kd.C_drewN ?_ _) | (with_reducible refine Kd.C_drew ?_) | exact HR246.out)) hb); have n4_ := Aside0.mk (below_step (BU HB.out) hb); clear HO235 HO238 HR246 HB; have HO235 := n0_; have HO238 := n1_; have HO251 := n2_; have HR246 := n3_; have HB := n4_; clear n0_ n1_ n2_ n3_ n4_; (try clear hb); (try clear hb2); (try clear hk); (try clear hi); (try clear ho0)) | ((with_reducible refine gate_dst (N := 33) rfl ?_); refine Kd.R_lit (Kd.int .u8) _ 5 ?hg (N := 33) ?hd (xs := ([(t247) % 256] : List Int)) (inner := [.int .u8 ((t247) % 256)]) (ok := fun _ => True) (okp := fun _ => True) ?hr ?hp (fun _ hk => hk) trivial (Below.refl _ _) (Nat.le_refl _) (by simp) ?_; (case hd => rfl); (case hg => rfl); (case hr => first | (go_simp; done) | (go_simp; rfl)); (case hp => exact (Reps.one (show Kd.M (Kd.int .u8) _ _ _ ((t247) % 256) [.int .u8 ((t247) % 256)] from rfl) (Reps.none _ _))); intro v253 w31 ho32 hb hg_ hnew_; clear hg_ hnew_; (first | rw [← Ny252.out] at ho32 | (simp only [Int.reduceToNat] at ho32; rw [← Ny252.out] at ho32)); have n0_ := Aside0.mk (Kd.R_below (RU HO235.out) hb); have n1_ := Aside0.mk (Kd.R_below (RU HO238.out) hb); have n2_ := Aside0.mk (Kd.R_elder' (RU HO251.out) (Kd.R_base ho32) hb); have n3_ := Aside0.mk (Kd.R_lower (Kd.R_new' ho32 (Kd.R_lt (RU HO251.out))) (below_size (BU HB.out))); have n4_ := Aside0.mk (Kd.C_below (by repeat (first | (with_reducible exact HR246.out) | (with_reducible refine Kd.C_alloc ?_ _) | (with_reducible refine Kd.C_drewN ?_ _) | (with_reducible refine Kd.C_drew ?_) | exact HR246.out)) hb); have n5_ := Aside0.mk (below_step (BU HB.out) hb); clear HO235 HO238 HO251 HR246 HB; have HO235 := n0_; have HO238 := n1_; have HO251 := n2_; have HO254 := n3_; have HR246 := n4_; have HB := n5_; clear n0_ n1_ n2_ n3_ n4_ n5_; clear hb ho32; obtain ⟨Ao34, co34, eo34⟩ := Kd.R_slice HO251.out; subst eo34) | ((with_reducible refine gate_builtin (b := .append) (xs := #[.tmp 33, .tmp 34]) rfl ?_); at_builtin; refine Kd.R_append_rows (Kd.int .u8) (w0 := w) w.heap.size rfl (.tmp 33) (.tmp 34) 25 5 (.int .u8 0) 1 rfl Tryz.underlying25 info5 rfl (by decide) (by omega) v253 y252 t248 _ _ _ (fun k_ => some k_ ≠ (.slice Ao34 t248.length co34 : Value).ownBlock) (fun _ => False) rfl rfl ?aO ?aR (fun _ _ h => h) (fun _ h => h.elim) ?aF ?aB ?aS ?aL ?_; (case aR => exact CU ((Kd.R_reads' HO251.out).2.2)); (case aB => exact (BU HB.out)); (case aF => exact (fun k_ hk => Kd.fresh' (Kd.R_lt (RU HO251.out)) k_ hk)); (case aO => exact (RU (Kd.R_mono HO254.out (fun _ hk => hk.2)))); (case aS => exact (below_size (BU HB.out))); (case aL => have := LMc21.out; omega); intro v256 w33 ho hb hg hat; rw [← Ny255.out] at ho; have n0_ := Aside0.mk (Kd.R_over' (RU HO235.out) (Kd.R_typed (RU HO254.out)) (by decide) hg); have n1_ := Aside0.mk (Kd.R_over' (RU HO238.out) (Kd.R_typed (RU HO254.out)) (by decide) hg); have n2_ := Aside0.mk (Kd.R_after (ok := (fun _ => True)) (RU HO251.out) hg hat); have n3_ := Aside0.mk (hb); have n4_ := Aside0.mk ((show Kd.C (Kd.int .u64) w33 A29 y243.length y243 from by rw [Ny243.out, KA29.out]; exact Kd.C_drop (m := 1) (c := co28) ((Kd.R_reads' (Kd.R_over' (RU HO238.out) (Kd.R_typed (RU HO254.out)) (by decide) hg)).2.2) KL29.out ((Kd.R_reads' (Kd.R_over' (RU HO238.out) (Kd.R_typed (RU HO254.out)) (by decide) hg)).2.1))); have n5_ := Aside0.mk (ho); clear HO235 HO238 HO251 HB HR246 HO254; have HO235 := n0_; have HO238 := n1_; have HO251 := n2_; have HB := n3_; have HR246 := n4_; have HO257 := n5_; clear n0_ n1_ n2_ n3_ n4_ n5_; clear ho hb hg hat; have p258 : 0 ≤ (0 : Int) := (by omega); have q258 : 0 < (t236.length : Int) := OD; obtain ⟨ad258, e258, hx258_0⟩ := Kd.at_int (Kd.R_reads' HO238.out).2.2 0 p258 q258; cases e258; have qi258 : (0 < t236.length) = True := eq_true (by omega); (try rw [show ((0 : Int)).toNat = 0 from rfl] at hx258_0); (try rw [Addr.add_zero'] at hx258_0); replace p258 := eq_true p258; replace q258 := eq_true q258) | ((with_reducible refine gate_callee (f := 39) rfl ?_); refine goesL_ (some 39) rfl rfl Tryz.func39 (by kernel_rfl) rfl #[.slice none 0 0, .int .u64 (rd t236 0)] rfl EA ?_; (refine (num_PutVar.calls k (fun k_ => some k_ = (.slice none 0 0 : Value).ownBlock) (.slice none 0 0) ([] : List Int) (rd t236 0) t259 w _ ?side1 ?side2 A23.out).mono ?_); (case side1 => repeat (first | (with_reducible first | exact HB.out | apply below_alloc | apply pw_below_drewN | apply below_drew1) | exact HB.out)); (case side2 => exact Kd.R_nil _ _ _ _ _); rintro e w35 ⟨v260, rfl, ho0, hb, hkp⟩; refine ⟨_, rfl, ?_⟩; have n0_ := Aside0.mk (Kd.R_mono (ok' := fun k_ => True) (Kd.R_keptB (HO235.out) hkp (fun k_ hk_ hs_ => (fun e_ => by simp [Value.ownBlock] at e_) hs_)) (fun k_ hk_ => trivial)); have n1_ := Aside0.mk (Kd.R_mono (ok' := fun k_ => True) (Kd.R_keptB (HO238.out) hkp (fun k_ hk_ hs_ => (fun e_ => by simp [Value.ownBlock] at e_) hs_)) (fun k_ hk_ => trivial)); have n2_ := Aside0.mk (Kd.R_mono (ok' := fun k_ => some k_ ≠ (v256 : Value).ownBlock ∧ some k_ ≠ (v260 : Value).ownBlock) (Kd.R_keptB (HO251.out) hkp (fun k_ hk_ hs_ => (fun e_ => by simp [Value.ownBlock] at e_) hs_)) (fun k_ hk_ => ⟨hk_.1.2, fun e_ => Or.elim (ho0.1 k_ e_.symm) (fun hs_ => hk_.2.1 hs_) (fun hn_ => Nat.not_le.2 hk_.2.2 hn_)⟩)); have n3_ := Aside0.mk (Kd.R_mono (ok' := fun k_ => some k_ ≠ (.slice Ao34 t248.length co34 : Value).ownBlock ∧ some k_ ≠ (v260 : Value).ownBlock) (Kd.R_keptB (HO257.out) hkp (fun k_ hk_ hs_ => (fun e_ => by simp [Value.ownBlock] at e_) hs_)) (fun k_ hk_ => ⟨hk_.1, fun e_ => Or.elim (ho0.1 k_ e_.symm) (fun hs_ => hk_.2.1 hs_) (fun hn_ => Nat.not_le.2 hk_.2.2 hn_)⟩)); have n4_ := Aside0.mk (Kd.R_mono (ok' := fun k_ => some k_ ≠ (.slice Ao34 t248.length co34 : Value).ownBlock ∧ some k_ ≠ (v256 : Value).ownBlock) ho0 (fun k_ hk_ => ⟨Or.elim hk_ (fun hs_ => absurd hs_ (by simp [Value.ownBlock])) (fun hn_ => (Kd.fresh' (Kd.R_lt (RU HO251.out)) k_ hn_)), Or.elim hk_ (fun hs_ => absurd hs_ (by simp [Value.ownBlock])) (fun hn_ => (Kd.fresh' (Kd.R_lt (RU HO257.out)) k_ hn_))⟩)); have n5_ := Aside0.mk (hb); clear HO235 HO238 HO251 HO257 HB; have HO235 := n0_; have HO238 := n1_; have HO251 := n2_; have HO257 := n3_; have HO261 := n4_; have HB := n5_; clear n0_ n1_ n2_ n3_ n4_ n5_; (try clear hb); (try clear hkp); (try clear ho0); obtain ⟨Ao37, co37, eo37⟩ := Kd.R_slice HO257.out; subst eo37) | ((with_reducible refine gate_builtin (b := .append) (xs := #[.tmp 39, .tmp 40]) rfl ?_); at_builtin; refine Kd.R_append_rows (Kd.int .u8) (w0 := w) w.heap.size rfl (.tmp 39) (.tmp 40) 25 5 (.int .u8 0) 1 rfl Tryz.underlying25 info5 rfl (by decide) (by omega) v260 t259 y255 _ _ _ (fun k_ => some k_ ≠ (.slice Ao34 t248.length co34 : Value).ownBlock ∧ some k_ ≠ (.slice Ao37 y255.length co37 : Value).ownBlock) (fun _ => False) rfl rfl ?aO ?aR (fun _ _ h => h) (fun _ h => h.elim) ?aF ?aB ?aS ?aL ?_; (case aR => exact CU ((Kd.R_reads' HO257.out).2.2)); (case aB => exact (BU HB.out)); (case aF => exact (fun k_ hk => ⟨Kd.fresh' (Kd.R_lt (RU HO251.out)) k_ hk, Kd.fresh' (Kd.R_lt (RU HO257.out)) k_ hk⟩)); (case aO => exact (RU HO261.out)); (case aS => exact (below_size (BU HB.out))); (case aL => have := LMc24.out; omega); intro v263 w36 ho hb hg hat; rw [← Ny262.out] at ho; have n0_ := Aside0.mk (Kd.R_over' (RU HO235.out) (Kd.R_typed (RU HO261.out)) (by decide) hg); have n1_ := Aside0.mk (Kd.R_over' (RU HO238.out) (Kd.R_typed (RU HO261.out)) (by decide) hg); have n2_ := Aside0.mk (Kd.R_after (ok := (fun k_ => some k_ ≠ (.slice Ao37 y255.length co37 : Value).ownBlock)) (RU HO251.out) hg hat); have n3_ := Aside0.mk (Kd.R_after (ok := (fun k_ => some k_ ≠ (.slice Ao34 t248.length co34 : Value).ownBlock)) (RU HO257.out) hg hat); have n4_ := Aside0.mk (hb); have n5_ := Aside0.mk (ho); clear HO235 HO238 HO251 HO257 HB HO261; have HO235 := n0_; have HO238 := n1_; have HO251 := n2_; have HO257 := n3_; have HB := n4_; have HO264 := n5_; clear n0_ n1_ n2_ n3_ n4_ n5_; clear ho hb hg hat))
        go_ret2
        exact ⟨_, by first | rfl | (simp [errW_none, errW_some] <;> rfl) | (simp [*, errW_none, errW_some] <;> rfl), RU (Kd.R_mono HO264.out (fun _ hk => trivial)), BU HB.out⟩
       ·rw [if_neg c24] at H
        exact absurd H (by simp)
      ·rw [if_neg c22] at H
       exact absurd H (by simp)
     ·rw [if_neg c21] at H
      exact absurd H (by simp)
    ·rw [if_neg c18] at H
     exact absurd H (by simp)

/-! ### num_Reader_Take: function 96 -/
end Go.Proofs.YtefcchpjbojdkaaGreatDoor.PChunkPuts
