/- WRITTEN BY A PROGRAM of this session (wip/tool: a turned copy of the printer), out of the translation: Lean functions with the answers of the Go functions, and the proofs that the Go code comes to them. -/
import Derived.Test.YtefcchpjbojdkaaGreatDoorPChunkPutsx0
import Derived.Test.YtefcchpjbojdkaaGreatDoorPChunkPutsx2
import Derived.Test.YtefcchpjbojdkaaGreatDoorPChunkPutsx3
namespace Go.Proofs.YtefcchpjbojdkaaGreatDoor.PChunkPuts
open Go.RowKit Go.Proofs.YtefcchpjbojdkaaGreatDoorW.PrintWords Go.Proofs.YtefcchpjbojdkaaGreatDoorW.PrintLast Go.Proofs.YtefcchpjbojdkaaGreatDoorW.PrintMore
attribute [local go_sem] max2_int min2_int max_two min_two max_three min_three max_four min_four   -- for this text's walks alone
set_option linter.unusedVariables false
set_option linter.unusedSimpArgs false

/-! ### bits_Pack: function 43 -/
mutual
def bits_Pack.l0 : Nat → Int → List Int → Int → List Int → Int → Int → Option (List Int × Int)
 | 0, _, _, _, _, _, _ => none
 | k + 1, x1, x7, x8, x22, x23, x24 => if x24 < x23 then (if 0 ≤ x24 then (if x24 < (x22.length : Int) then ((bits_fits.f (rd x22 x24) x1).bind fun t134 => (if t134 = true then (bits_Pack.l1 k x1 x7 x8 (rd x22 x24) x1 x22 x23 x24) else (some (([] : List Int), 5)))) else (none)) else (none)) else (some (x7, 0))
def bits_Pack.l1 : Nat → Int → List Int → Int → Int → Int → List Int → Int → Int → Option (List Int × Int)
 | 0, _, _, _, _, _, _, _, _ => none
 | k + 1, x1, x7, x8, x10, x11, x22, x23, x24 => if x11 > 0 then (if 0 ≤ (wrap64 (Int.tdiv x8 8)) then (if (wrap64 (Int.tdiv x8 8)) < (x7.length : Int) then (if 0 ≤ (IntKind.u64.wrap (Int.tmod x8 8)) then (if 0 ≤ (IntKind.u64.wrap (mn (wrap64 (8 - (Int.tmod x8 8))) x11)) then (bits_Pack.l1 k x1 (x7.set ((wrap64 (Int.tdiv x8 8)) : Int).toNat (Go.bits .or .u8 (rd x7 (wrap64 (Int.tdiv x8 8))) (shl .u8 ((x10) % 256) (IntKind.u64.wrap (Int.tmod x8 8))))) (wrap64 (x8 + (mn (wrap64 (8 - (Int.tmod x8 8))) x11))) (shr .u64 x10 (IntKind.u64.wrap (mn (wrap64 (8 - (Int.tmod x8 8))) x11))) (wrap64 (x11 - (mn (wrap64 (8 - (Int.tmod x8 8))) x11))) x22 x23 x24) else (none)) else (none)) else (none)) else (none)) else (bits_Pack.l0 k x1 x7 x8 x22 x23 (wrap64 (x24 + 1)))
end
def bits_Pack.f (k : Nat) (l0 : List Int) (a1 : Int) : Option (List Int × Int) := (bits_Size.f (l0.length : Int) a1).bind fun t129 => (if t129 < 0 then (some (([] : List Int), 1)) else (if 0 ≤ t129 then (if (t129 : Int).toNat ≤ 281474976710656 then (bits_Pack.l0 k a1 (List.replicate (t129 : Int).toNat 0) 0 l0 (l0.length : Int) 0) else (none)) else (none)))
set_option maxHeartbeats 8000000 in
set_option maxRecDepth 100000 in
theorem bits_Pack.calls (k : Nat) (A0 : Option Addr) (c0 : Nat) (l0 : List Int) (a1 : Int) (r1 : List Int) (r2 : Int) (w : World) (hr0 : Kd.C (Kd.int .u64) w A0 l0.length l0) (hc0 : l0.length ≤ c0) (h : bits_Pack.f k l0 a1 = some (r1, r2)) :
  Calls Tryz.prog 43 #[.slice A0 l0.length c0, .int .i64 a1] w fun e w' => ∃ v0_ : Value, e = .returned (.tuple #[v0_, .int .i64 r2]) ∧ Kd.R (Kd.int .u8) 5 w' w.heap.size (fun _ => True) v0_ r1 ∧ Below w.heap.size w w' := by
 have HR0 := Aside0.mk hr0
 have HC0 := Aside0.mk hc0
 clear hr0 hc0
 have HB := Aside0.mk (Below.refl w.heap.size w)
 have H : ((bits_Size.f (l0.length : Int) a1).bind fun t129 => (if t129 < 0 then (some (([] : List Int), 1)) else (if 0 ≤ t129 then (if (t129 : Int).toNat ≤ 281474976710656 then (bits_Pack.l0 k a1 (List.replicate (t129 : Int).toNat 0) 0 l0 (l0.length : Int) 0) else (none)) else (none)))) = some (r1, r2) := h
 clear h
 replace H := Option.bind_eq_some_iff.mp H
 obtain ⟨t129, A30, H⟩ := H
 replace H : (if t129 < 0 then (some (([] : List Int), 1)) else (if 0 ≤ t129 then (if (t129 : Int).toNat ≤ 281474976710656 then (bits_Pack.l0 k a1 (List.replicate (t129 : Int).toNat 0) 0 l0 (l0.length : Int) 0) else (none)) else (none))) = some (r1, r2) := H
 have A3 := Aside0.mk A30
 clear A30
 by_cases c4 : t129 < 0
 ·rw [if_pos c4] at H
  have c4b0 : decide (t129 < 0) = true := decide_eq_true c4
  clear c4
  simp only [Option.some.injEq, Prod.mk.injEq] at H
  obtain ⟨rfl, rfl⟩ := H
  go_enter Tryz.func43, Tryz.ntmps43
  go_wp2_with (first | ((with_reducible refine gate_callee (f := 76) rfl ?_); refine goesL_ (some 17) rfl rfl Tryz.func76 (by kernel_rfl) rfl #[.int .i64 (l0.length : Int), .int .i64 a1] rfl EA ?_; (with_reducible refine (bits_Size.calls (l0.length : Int) a1 t129 _ A3.out).mono ?_); rintro e w' ⟨rfl, ⟨nd, rfl⟩⟩; refine ⟨_, rfl, ?_⟩))
  go_ret2
  exact ⟨_, by first | rfl | (simp [errW_none, errW_some] <;> rfl) | (simp [*, errW_none, errW_some] <;> rfl), by first | exact Kd.R_nil _ _ _ _ _ | exact Kd.N_nil _ _ _ _ _ | exact Kd.V_nil _ _ _ _ _ | exact Kd.Q_nil _ _ _ _ _ | exact Kd.S_nil _ _ _ _ _, BU HB.out⟩
 ·rw [if_neg c4] at H
  have c4b0 : decide (t129 < 0) = false := decide_eq_false c4
  clear c4
  by_cases c5 : 0 ≤ t129
  ·rw [if_pos c5] at H
   have c5b0 := eq_true c5
   have c5b1 : decide (0 ≤ t129) = true := decide_eq_true c5
   clear c5
   by_cases c6 : (t129 : Int).toNat ≤ 281474976710656
   ·rw [if_pos c6] at H
    have c6b0 := eq_true c6
    have c6b1 : decide ((t129 : Int).toNat ≤ 281474976710656) = true := decide_eq_true c6
    clear c6
    obtain ⟨y130, hy130⟩ : ∃ y_ : List Int, y_ = (List.replicate (t129 : Int).toNat 0) := ⟨_, rfl⟩
    replace H : (bits_Pack.l0 k a1 y130 0 l0 (l0.length : Int) 0) = some (r1, r2) := by first | (rw [hy130]; with_reducible exact H) | (have H2_ := (Option.bind_some _ _).symm.trans H; rw [hy130]; with_reducible exact H2_) | (have H2_ := (Option.bind_some _ _).symm.trans H; with_reducible exact H2_) | with_reducible exact H | (rw [hy130]; exact H) | exact H
    have Ny130 := Aside0.mk hy130
    clear hy130
    have H' := Aside0.mk H
    clear H
    go_enter Tryz.func43, Tryz.ntmps43
    go_wp2_with (first | ((with_reducible refine gate_callee (f := 76) rfl ?_); refine goesL_ (some 17) rfl rfl Tryz.func76 (by kernel_rfl) rfl #[.int .i64 (l0.length : Int), .int .i64 a1] rfl EA ?_; (with_reducible refine (bits_Size.calls (l0.length : Int) a1 t129 _ A3.out).mono ?_); rintro e w' ⟨rfl, ⟨nd, rfl⟩⟩; refine ⟨_, rfl, ?_⟩) | ((with_reducible refine gate_dst (N := 21) rfl ?_); refine Kd.R_make (Kd.int .u8) _ 5 rfl (N := 21) rfl 25 _ _ rfl t129 rfl rfl Tryz.underlying25 (.int .u8 0) 1 info5 rfl (by decide) (by omega) 0 (ok := fun _ => True) (okp := fun _ => True) rfl (fun _ hk => hk) trivial (OD) (Nat.le_trans (Nat.mul_le_mul_right _ (OD : t129.toNat ≤ 281474976710656)) (by omega)) (Below.refl _ _) (Nat.le_refl _) ?_; intro v131 w7 ho8 hb hg_ hnew_; clear hg_ hnew_; (first | rw [← Ny130.out] at ho8 | (simp only [Int.reduceToNat] at ho8; rw [← Ny130.out] at ho8)); have n0_ := Aside0.mk (Kd.R_lower ho8 (below_size (BU HB.out))); have n1_ := Aside0.mk (below_step (BU HB.out) hb); clear HB; have HO132 := n0_; have HB := n1_; clear n0_ n1_; clear hb ho8))
    go_loopg [8, 24] k (fun kq v8 v24 w' => ∃ (x7_1 : List Int) (x8_1 : Int) (x24_1 : Int), v8 = .int .i64 x8_1 ∧ v24 = .int .i64 x24_1 ∧ Aside0 (bits_Pack.l0 kq a1 x7_1 x8_1 l0 (l0.length : Int) x24_1 = some (r1, r2)) ∧ Aside0 (kq ≤ k) ∧ Aside0 (Kd.R (Kd.int .u8) 5 w' w.heap.size (fun _ => True) v131 x7_1) ∧ Aside0 (Below w.heap.size w w'))
    case atStart => exact ⟨(y130), (0), (0), EB, EB, H', ⟨Nat.le_refl _⟩, ⟨RU HO132.out⟩, ⟨BU HB.out⟩⟩
    case round =>
     clear H'
     try clear p2
     try clear c4
     try clear c4b0
     try clear c5
     try clear c5b0
     try clear c5b1
     try clear c6
     try clear c6b0
     try clear c6b1
     try clear c7
     obtain ⟨x7_1, x8_1, x24_1, rfl, rfl, HA, HK1, HO_7, HB⟩ := hrel
     cases gk with
     | zero => exact absurd HA.out (by simp [bits_Pack.l0])
     | succ k1 =>
      have H := HA.out
      clear HA
      simp only [bits_Pack.l0] at H
      by_cases c9 : x24_1 < (l0.length : Int)
      ·rw [if_pos c9] at H
       have c9b0 : decide (x24_1 < (l0.length : Int)) = true := decide_eq_true c9
       clear c9
       by_cases c10 : 0 ≤ x24_1
       ·rw [if_pos c10] at H
        have c10b0 : decide (0 ≤ x24_1) = true := decide_eq_true c10
        clear c10
        by_cases c11 : x24_1 < (l0.length : Int)
        ·rw [if_pos c11] at H
         have c11b0 : decide (x24_1 < (l0.length : Int)) = true := decide_eq_true c11
         clear c11
         replace H := Option.bind_eq_some_iff.mp H
         obtain ⟨t134, A120, H⟩ := H
         replace H : (if t134 = true then (bits_Pack.l1 k1 a1 x7_1 x8_1 (rd l0 x24_1) a1 l0 (l0.length : Int) x24_1) else (some (([] : List Int), 5))) = some (r1, r2) := H
         have A12 := Aside0.mk A120
         clear A120
         by_cases c13 : t134 = true
         ·subst c13
          have H1 : (bits_Pack.l1 k1 a1 x7_1 x8_1 (rd l0 x24_1) a1 l0 (l0.length : Int) x24_1) = some (r1, r2) := by rw [if_pos rfl] at H; exact H
          clear H
          have H := H1
          clear H1
          have H' := Aside0.mk H
          clear H
          have p133 : 0 ≤ (x24_1 : Int) := OD
          have q133 : x24_1 < (l0.length : Int) := OD
          obtain ⟨ad133, e133, hx133_0⟩ := Kd.at_int HR0.out x24_1 p133 q133
          cases e133
          replace hx133_0 := (HB.out.cell (World.block_lt_of_cell? w _ hx133_0)).trans hx133_0
          replace p133 := eq_true p133
          replace q133 := eq_true q133
          go_wp2_with (first | ((with_reducible refine gate_callee (f := 77) rfl ?_); refine goesL_ (some 30) rfl rfl Tryz.func77 (by kernel_rfl) rfl #[.int .u64 (rd l0 x24_1), .int .i64 a1] rfl EA ?_; (with_reducible refine (bits_fits.calls (rd l0 x24_1) a1 true _ A12.out).mono ?_); rintro e w' ⟨rfl, ⟨nd, rfl⟩⟩; refine ⟨_, rfl, ?_⟩))
          go_loopg [8, 10, 11] k1 (fun kq v8 v10 v11 w' => ∃ (x7_2 : List Int) (x8_2 : Int) (x10_2 : Int) (x11_2 : Int), v8 = .int .i64 x8_2 ∧ v10 = .int .u64 x10_2 ∧ v11 = .int .i64 x11_2 ∧ Aside0 (bits_Pack.l1 kq a1 x7_2 x8_2 x10_2 x11_2 l0 (l0.length : Int) x24_1 = some (r1, r2)) ∧ Aside0 (kq ≤ k1) ∧ Aside0 (Kd.R (Kd.int .u8) 5 w' w.heap.size (fun _ => True) v131 x7_2) ∧ Aside0 (Below w.heap.size w w'))
          case atStart => exact ⟨(x7_1), (x8_1), (rd l0 x24_1), (a1), EB, EB, EB, H', ⟨Nat.le_refl _⟩, ⟨RU HO_7.out⟩, ⟨BU HB.out⟩⟩
          case round =>
           clear H'
           try clear c1
           try clear p1
           try clear q1
           try clear hx1
           try clear p2
           try clear c4
           try clear c4b0
           try clear c5
           try clear c5b0
           try clear c5b1
           try clear c6
           try clear c6b0
           try clear c6b1
           try clear c7
           try clear c9
           try clear c9b0
           try clear c10
           try clear c10b0
           try clear c11
           try clear c11b0
           try clear c13
           try clear p13
           try clear q13
           try clear hx13
           try clear hx133_0
           try clear p133
           try clear p2
           try clear q133
           obtain ⟨x7_2, x8_2, x10_2, x11_2, rfl, rfl, rfl, HA, HK2, HO_7, HB⟩ := hrel
           cases gk with
           | zero => exact absurd HA.out (by simp [bits_Pack.l1])
           | succ k2 =>
            have H := HA.out
            clear HA
            simp only [bits_Pack.l1] at H
            by_cases c14 : x11_2 > 0
            ·rw [if_pos c14] at H
             have c14b0 : decide (0 < x11_2) = true := decide_eq_true c14
             clear c14
             obtain ⟨ji15, hji15⟩ : ∃ j_ : Int, (mn (wrap64 (8 - (Int.tmod x8_2 8))) x11_2) = j_ := ⟨_, rfl⟩
             replace H : (if 0 ≤ (wrap64 (Int.tdiv x8_2 8)) then (if (wrap64 (Int.tdiv x8_2 8)) < (x7_2.length : Int) then (if 0 ≤ (IntKind.u64.wrap (Int.tmod x8_2 8)) then (if 0 ≤ (IntKind.u64.wrap (ji15)) then (bits_Pack.l1 k2 a1 (x7_2.set ((wrap64 (Int.tdiv x8_2 8)) : Int).toNat (Go.bits .or .u8 (rd x7_2 (wrap64 (Int.tdiv x8_2 8))) (shl .u8 ((x10_2) % 256) (IntKind.u64.wrap (Int.tmod x8_2 8))))) (wrap64 (x8_2 + (ji15))) (shr .u64 x10_2 (IntKind.u64.wrap (ji15))) (wrap64 (x11_2 - (ji15))) l0 (l0.length : Int) x24_1) else (none)) else (none)) else (none)) else (none)) = some (r1, r2) := by first | (rw [hji15] at H; exact H) | (simp only [hji15] at H ⊢; exact H)
             have hji15_ : (if x11_2 < (wrap64 (8 - (Int.tmod x8_2 8))) then x11_2 else (wrap64 (8 - (Int.tmod x8_2 8)))) = ji15 := hji15
             obtain ⟨ji16, hji16⟩ : ∃ j_ : Int, (wrap64 (Int.tdiv x8_2 8)) = j_ := ⟨_, rfl⟩
             replace H : (if 0 ≤ (ji16) then (if (ji16) < (x7_2.length : Int) then (if 0 ≤ (IntKind.u64.wrap (Int.tmod x8_2 8)) then (if 0 ≤ (IntKind.u64.wrap (ji15)) then (bits_Pack.l1 k2 a1 (x7_2.set ((ji16) : Int).toNat (Go.bits .or .u8 (rd x7_2 (ji16)) (shl .u8 ((x10_2) % 256) (IntKind.u64.wrap (Int.tmod x8_2 8))))) (wrap64 (x8_2 + (ji15))) (shr .u64 x10_2 (IntKind.u64.wrap (ji15))) (wrap64 (x11_2 - (ji15))) l0 (l0.length : Int) x24_1) else (none)) else (none)) else (none)) else (none)) = some (r1, r2) := by first | (rw [hji16] at H; exact H) | (simp only [hji16] at H ⊢; exact H)
             have hji16w : (IntKind.i64.wrap (Int.tdiv x8_2 8)) = ji16 := (i64_w _).trans hji16
             by_cases c17 : 0 ≤ (ji16)
             ·rw [if_pos c17] at H
              have c17b0 : decide (0 ≤ (ji16)) = true := decide_eq_true c17
              clear c17
              by_cases c18 : (ji16) < (x7_2.length : Int)
              ·rw [if_pos c18] at H
               have c18b0 : decide ((ji16) < (x7_2.length : Int)) = true := decide_eq_true c18
               clear c18
               obtain ⟨ji19, hji19⟩ : ∃ j_ : Int, (IntKind.u64.wrap (Int.tmod x8_2 8)) = j_ := ⟨_, rfl⟩
               replace H : (if 0 ≤ (ji19) then (if 0 ≤ (IntKind.u64.wrap (ji15)) then (bits_Pack.l1 k2 a1 (x7_2.set ((ji16) : Int).toNat (Go.bits .or .u8 (rd x7_2 (ji16)) (shl .u8 ((x10_2) % 256) (ji19)))) (wrap64 (x8_2 + (ji15))) (shr .u64 x10_2 (IntKind.u64.wrap (ji15))) (wrap64 (x11_2 - (ji15))) l0 (l0.length : Int) x24_1) else (none)) else (none)) = some (r1, r2) := by first | (rw [hji19] at H; exact H) | (simp only [hji19] at H ⊢; exact H)
               by_cases c20 : 0 ≤ (ji19)
               ·rw [if_pos c20] at H
                have c20b0 := eq_true c20
                have c20b1 : decide (0 ≤ (ji19)) = true := decide_eq_true c20
                clear c20
                obtain ⟨ji21, hji21⟩ : ∃ j_ : Int, (shl .u8 ((x10_2) % 256) (ji19)) = j_ := ⟨_, rfl⟩
                replace H : (if 0 ≤ (IntKind.u64.wrap (ji15)) then (bits_Pack.l1 k2 a1 (x7_2.set ((ji16) : Int).toNat (Go.bits .or .u8 (rd x7_2 (ji16)) (ji21))) (wrap64 (x8_2 + (ji15))) (shr .u64 x10_2 (IntKind.u64.wrap (ji15))) (wrap64 (x11_2 - (ji15))) l0 (l0.length : Int) x24_1) else (none)) = some (r1, r2) := by first | (rw [hji21] at H; exact H) | (simp only [hji21] at H ⊢; exact H)
                have hji21_ : (IntKind.u8.wrap (((x10_2) % 256) * 2 ^ min (ji19).toNat 8)) = ji21 := hji21
                have hji21z : (ji19) ≤ 8 → (IntKind.u8.wrap (((x10_2) % 256) * 2 ^ (ji19).toNat)) = ji21 := shl_small hji21
                obtain ⟨y136, hy136⟩ : ∃ y_ : List Int, y_ = (x7_2.set ((ji16) : Int).toNat (Go.bits .or .u8 (rd x7_2 (ji16)) (ji21))) := ⟨_, rfl⟩
                replace H : (if 0 ≤ (IntKind.u64.wrap (ji15)) then (bits_Pack.l1 k2 a1 y136 (wrap64 (x8_2 + (ji15))) (shr .u64 x10_2 (IntKind.u64.wrap (ji15))) (wrap64 (x11_2 - (ji15))) l0 (l0.length : Int) x24_1) else (none)) = some (r1, r2) := by first | (rw [hy136]; with_reducible exact H) | (have H2_ := (Option.bind_some _ _).symm.trans H; rw [hy136]; with_reducible exact H2_) | (have H2_ := (Option.bind_some _ _).symm.trans H; with_reducible exact H2_) | with_reducible exact H | (rw [hy136]; exact H) | exact H
                have Ny136 := Aside0.mk hy136
                clear hy136
                obtain ⟨ji23, hji23⟩ : ∃ j_ : Int, (IntKind.u64.wrap (ji15)) = j_ := ⟨_, rfl⟩
                replace H : (if 0 ≤ (ji23) then (bits_Pack.l1 k2 a1 y136 (wrap64 (x8_2 + (ji15))) (shr .u64 x10_2 (ji23)) (wrap64 (x11_2 - (ji15))) l0 (l0.length : Int) x24_1) else (none)) = some (r1, r2) := by first | (rw [hji23] at H; exact H) | (simp only [hji23] at H ⊢; exact H)
                by_cases c24 : 0 ≤ (ji23)
                ·rw [if_pos c24] at H
                 have c24b0 := eq_true c24
                 have c24b1 : decide (0 ≤ (ji23)) = true := decide_eq_true c24
                 clear c24
                 obtain ⟨ji25, hji25⟩ : ∃ j_ : Int, (shr .u64 x10_2 (ji23)) = j_ := ⟨_, rfl⟩
                 replace H : (bits_Pack.l1 k2 a1 y136 (wrap64 (x8_2 + (ji15))) ji25 (wrap64 (x11_2 - (ji15))) l0 (l0.length : Int) x24_1) = some (r1, r2) := by first | (rw [hji25] at H; exact H) | (simp only [hji25] at H ⊢; exact H)
                 have hji25_ : (x10_2 / 2 ^ min (ji23).toNat 64) = ji25 := hji25
                 have hji25z : (ji23) ≤ 64 → (x10_2 / 2 ^ (ji23).toNat) = ji25 := shr_small hji25
                 have H' := Aside0.mk H
                 clear H
                 obtain ⟨Ao26, co26, eo26⟩ := Kd.R_slice HO_7.out
                 subst eo26
                 have p135 : 0 ≤ ((ji16) : Int) := OD
                 have q135 : (ji16) < (x7_2.length : Int) := OD
                 obtain ⟨ad135, e135, hx135_0⟩ := Kd.at_int (Kd.R_reads' HO_7.out).2.2 (ji16) p135 q135
                 cases e135
                 replace p135 := eq_true p135
                 replace q135 := eq_true q135
                 have p22 : 0 ≤ ((ji16) : Int) := OD
                 have q22 : ((ji16) : Int) < ((x7_2.length : Int) : Int) := OD
                 obtain ⟨go22, co22, eo22, gb22, gl22, cl22, HG22⟩ := Kd.R_form HO_7.out (by omega)
                 (first | cases eo22 | (injection eo22 with ea_ en_ ec_; (first | subst ea_ | (injection ea_ with ea_; subst ea_)); subst ec_; clear en_))
                 have GB22 := Aside0.mk gb22
                 have GG22 := Aside0.mk HG22
                 clear gb22 gl22 HG22
                 (first | simp only [add_plain] at hx135_0 | skip)
                 obtain ⟨hx22_0, hf22_0⟩ := Kd.R_celln 0 HO_7.out ((ji16) : Int) p22 q22
                 replace p22 := eq_true p22
                 replace q22 := eq_true q22
                 have HP27 := Kd.R_putg HO_7.out ((ji16) : Int) (Go.bits .or .u8 (rd x7_2 (ji16)) (ji21))
                 go_wp2_with (first | ((with_reducible refine gate_store (t := 5) (p := 53) rfl ?_); refine store_event (t := 5) (p := 53) (v := ?vo_w28) (w1 := (wr.setCell ⟨go22, ((ji16) : Int).toNat, none⟩ (.int .u8 (Go.bits .or .u8 (rd x7_2 (ji16)) (ji21))))) ?hg ?ho ?hn ?hr ?_; (case ho => rfl); (case hg => rfl); (case hn => rfl); (case hr => first | (go_simp; done) | (go_simp; rfl)); intro w28 hw; have hg : wr.grownBy w28 (some go22) := (by rw [hw]; exact HP27.2); have hp_ : Kd.R (Kd.int .u8) 5 w28 w.heap.size (fun _ => True) (.slice (some ⟨go22, 0, none⟩) x7_2.length co26) y136 := (by rw [hw, Ny136.out]; exact HP27.1); clear HP27; have n0_ := Aside0.mk (hp_); have n1_ := Aside0.mk ((by rw [hw]; exact below_set (HB.out) GB22.out : Below w.heap.size w w28)); clear HO_7 HB; have HO_7 := n0_; have HB := n1_; clear n0_ n1_; clear hg hw hp_))
                 go_roundg k2
                 case measure => have := HK1.out; have := HK2.out; omega
                 case rel => exact ⟨(y136), (wrap64 (x8_2 + (ji15))), (ji25), (wrap64 (x11_2 - (ji15))), (by first | rfl | (simp; done) | (simp only [← hji15] <;> (first | rfl | simp)) | (simp [*]; done)), (by first | rfl | (simp; done) | (simp only [← hji25] <;> (first | rfl | simp)) | (simp [*]; done)), (by first | rfl | (simp; done) | (simp only [← hji15] <;> (first | rfl | simp)) | (simp [*]; done)), H', ⟨by have := HK1.out; have := HK2.out; omega⟩, ⟨RU HO_7.out⟩, ⟨BU HB.out⟩⟩
                ·rw [if_neg c24] at H
                 exact absurd H (by simp)
               ·rw [if_neg c20] at H
                exact absurd H (by simp)
              ·rw [if_neg c18] at H
               exact absurd H (by simp)
             ·rw [if_neg c17] at H
              exact absurd H (by simp)
            ·rw [if_neg c14] at H
             have c14b0 : decide (0 < x11_2) = false := decide_eq_false c14
             clear c14
             have H' := Aside0.mk H
             clear H
             go_wp2
             go_roundg k2
             case measure => have := HK1.out; have := HK2.out; omega
             case rel => exact ⟨(x7_2), (x8_2), (wrap64 (x24_1 + 1)), EB, EB, H', ⟨by have := HK1.out; have := HK2.out; omega⟩, ⟨RU HO_7.out⟩, ⟨BU HB.out⟩⟩
         ·replace c13 := Bool.eq_false_iff.mpr c13
          subst c13
          have H1 : (some (([] : List Int), 5)) = some (r1, r2) := by rw [if_neg (show ¬ (false = true) by decide)] at H; exact H
          clear H
          have H := H1
          clear H1
          simp only [Option.some.injEq, Prod.mk.injEq] at H
          obtain ⟨rfl, rfl⟩ := H
          have p133 : 0 ≤ (x24_1 : Int) := OD
          have q133 : x24_1 < (l0.length : Int) := OD
          obtain ⟨ad133, e133, hx133_0⟩ := Kd.at_int HR0.out x24_1 p133 q133
          cases e133
          replace hx133_0 := (HB.out.cell (World.block_lt_of_cell? w _ hx133_0)).trans hx133_0
          replace p133 := eq_true p133
          replace q133 := eq_true q133
          go_wp2_with (first | ((with_reducible refine gate_callee (f := 77) rfl ?_); refine goesL_ (some 30) rfl rfl Tryz.func77 (by kernel_rfl) rfl #[.int .u64 (rd l0 x24_1), .int .i64 a1] rfl EA ?_; (with_reducible refine (bits_fits.calls (rd l0 x24_1) a1 false _ A12.out).mono ?_); rintro e w' ⟨rfl, ⟨nd, rfl⟩⟩; refine ⟨_, rfl, ?_⟩))
          go_ret2
          exact ⟨_, by first | rfl | (simp [errW_none, errW_some] <;> rfl) | (simp [*, errW_none, errW_some] <;> rfl), by first | exact Kd.R_nil _ _ _ _ _ | exact Kd.N_nil _ _ _ _ _ | exact Kd.V_nil _ _ _ _ _ | exact Kd.Q_nil _ _ _ _ _ | exact Kd.S_nil _ _ _ _ _, BU HB.out⟩
        ·rw [if_neg c11] at H
         exact absurd H (by simp)
       ·rw [if_neg c10] at H
        exact absurd H (by simp)
      ·rw [if_neg c9] at H
       have c9b0 : decide (x24_1 < (l0.length : Int)) = false := decide_eq_false c9
       clear c9
       simp only [Option.some.injEq, Prod.mk.injEq] at H
       obtain ⟨rfl, rfl⟩ := H
       go_wp2
       go_ret2
       exact ⟨_, by first | rfl | (simp [errW_none, errW_some] <;> rfl) | (simp [*, errW_none, errW_some] <;> rfl), RU HO_7.out, BU HB.out⟩
   ·rw [if_neg c6] at H
    exact absurd H (by simp)
  ·rw [if_neg c5] at H
   exact absurd H (by simp)

/-! ### texts_Put: function 22 -/
mutual
def texts_Put.j0 : Nat → List ByteArray → Bool → Option (List Int × Int)
 | 0, _, _ => none
 | k + 1, x0, x22 => if x22 = true then (some (([] : List Int), 12)) else ((texts_List.f x0).bind fun t138 => ((num_PutVar.f k ([] : List Int) (IntKind.u64.wrap ((t138.length : Int)))).bind fun t141 => (texts_Put.l0 k x0 t138 t141 t138 (t138.length : Int) 0)))
def texts_Put.l0 : Nat → List ByteArray → List ByteArray → List Int → List ByteArray → Int → Int → Option (List Int × Int)
 | 0, _, _, _, _, _, _ => none
 | k + 1, x0, x4, x5, x29, x30, x31 => if x31 < x30 then (if 0 ≤ x31 then (if x31 < (x29.length : Int) then ((num_PutBlobS.f k x5 (rdOf ByteArray.empty x29 x31)).bind fun t145 => (texts_Put.l0 k x0 x4 t145 x29 x30 (wrap64 (x31 + 1)))) else (none)) else (none)) else (texts_Put.l1 k x4 x5 ([] : List Int) x0 (x0.length : Int) 0)
def texts_Put.l1 : Nat → List ByteArray → List Int → List Int → List ByteArray → Int → Int → Option (List Int × Int)
 | 0, _, _, _, _, _, _ => none
 | k + 1, x4, x5, x8, x40, x41, x42 => if x42 < x41 then (if 0 ≤ x42 then (if x42 < (x40.length : Int) then ((slices_BinarySearch_string_string.f k x4 (rdOf ByteArray.empty x40 x42)).bind fun bt149 => (if x8.length < 17592186044416 then (texts_Put.l1 k x4 x5 (x8 ++ [IntKind.u64.wrap (bt149.1)]) x40 x41 (wrap64 (x42 + 1))) else (none))) else (none)) else (none)) else ((texts_width.f (x4.length : Int)).bind fun t154 => ((bits_Pack.f k x8 t154).bind fun bt155 => (if x5.length < 140737488355328 then ((some (x5 ++ [(t154) % 256] : List Int)).bind fun y159 => (if y159.length + bt155.1.length < 140737488355328 then (some ((y159 ++ bt155.1), bt155.2)) else (none))) else (none))))
end
def texts_Put.f (k : Nat) (l0 : List ByteArray) : Option (List Int × Int) := if (l0.length : Int) > 65536 then (texts_Put.j0 k l0 true) else ((slices_ContainsFunc_string_string.f l0).bind fun t137 => (texts_Put.j0 k l0 t137))
set_option maxHeartbeats 8000000 in
set_option maxRecDepth 100000 in
theorem texts_Put.calls (k : Nat) (A0 : Option Addr) (c0 : Nat) (l0 : List ByteArray) (r1 : List Int) (r2 : Int) (w : World) (hr0 : Kd.C Kd.string w A0 l0.length l0) (hc0 : l0.length ≤ c0) (h : texts_Put.f k l0 = some (r1, r2)) :
  Calls Tryz.prog 22 #[.slice A0 l0.length c0] w fun e w' => ∃ v0_ : Value, e = .returned (.tuple #[v0_, .int .i64 r2]) ∧ Kd.R (Kd.int .u8) 5 w' w.heap.size (fun _ => True) v0_ r1 ∧ Below w.heap.size w w' := by
 have HR0 := Aside0.mk hr0
 have HC0 := Aside0.mk hc0
 clear hr0 hc0
 have HB := Aside0.mk (Below.refl w.heap.size w)
 have H : (if (l0.length : Int) > 65536 then (texts_Put.j0 k l0 true) else ((slices_ContainsFunc_string_string.f l0).bind fun t137 => (texts_Put.j0 k l0 t137))) = some (r1, r2) := h
 clear h
 have HC2 := Aside0.mk H
 clear H
 go_enter Tryz.func22, Tryz.ntmps22
 go_upto_region 1 with (fail)
 go_cut [22] (fun v22 wc => ∃ (kq : Nat) (x22_1 : Bool), v22 = .bool x22_1 ∧ Aside0 (texts_Put.j0 kq l0 x22_1 = some (r1, r2)) ∧ Aside0 (kq ≤ k) ∧ Aside0 (Below w.heap.size w wc))
 case first =>
  have H := HC2.out
  clear HC2
  by_cases c3 : (l0.length : Int) > 65536
  ·rw [if_pos c3] at H
   have c3b0 : decide (65536 < (l0.length : Int)) = true := decide_eq_true c3
   have c3b1 : decide (65536 < l0.length) = true := decide_eq_true (by omega)
   clear c3
   (first | rw [c3b0] | (simp only [i64_w, i32_w]; rw [c3b0]) | skip)
   have H' := Aside0.mk H
   clear H
   go_wp2
   go_meet
   case rel => exact ⟨_, (true), EB, H', ⟨by first | omega | exact Nat.le_refl _⟩, ⟨BU HB.out⟩⟩
  ·rw [if_neg c3] at H
   have c3b0 : decide (65536 < (l0.length : Int)) = false := decide_eq_false c3
   have c3b1 : decide (65536 < l0.length) = false := decide_eq_false (by omega)
   clear c3
   (first | rw [c3b0] | (simp only [i64_w, i32_w]; rw [c3b0]) | skip)
   replace H := Option.bind_eq_some_iff.mp H
   obtain ⟨t137, A40, H⟩ := H
   replace H : (texts_Put.j0 k l0 t137) = some (r1, r2) := H
   have A4 := Aside0.mk A40
   clear A40
   have H' := Aside0.mk H
   clear H
   go_wp2_with (first | (go_at_call 36; (with_reducible refine (slices_ContainsFunc_string_string.calls _ _ l0  t137 _ ?side1 ?side2 A4.out).mono ?_); (case side1 => exact CU ((Kd.C_below HR0.out HB.out))); (case side2 => exact HC0.out); rintro e w' ⟨rfl, ⟨nd, rfl⟩⟩))
   go_meet
   case rel => exact ⟨_, (t137), EB, H', ⟨by first | omega | exact Nat.le_refl _⟩, ⟨BU HB.out⟩⟩
 case rest =>
  clear HC2
  try clear c2
  try clear p2
  try clear c3
  try clear c3b0
  try clear c3b1
  obtain ⟨kq, x22_1, rfl, HA, HJ1, HB⟩ := hcut
  cases kq with
  | zero => exact absurd HA.out (by simp [texts_Put.j0])
  | succ kj1 =>
   have H := HA.out
   clear HA
   simp only [texts_Put.j0] at H
   by_cases c5 : x22_1 = true
   ·subst c5
    have H1 : (some (([] : List Int), 12)) = some (r1, r2) := by rw [if_pos rfl] at H; exact H
    clear H
    have H := H1
    clear H1
    simp only [Option.some.injEq, Prod.mk.injEq] at H
    obtain ⟨rfl, rfl⟩ := H
    go_wp2
    go_ret2
    exact ⟨_, by first | rfl | (simp [errW_none, errW_some] <;> rfl) | (simp [*, errW_none, errW_some] <;> rfl), by first | exact Kd.R_nil _ _ _ _ _ | exact Kd.N_nil _ _ _ _ _ | exact Kd.V_nil _ _ _ _ _ | exact Kd.Q_nil _ _ _ _ _ | exact Kd.S_nil _ _ _ _ _, BU HB.out⟩
   ·replace c5 := Bool.eq_false_iff.mpr c5
    subst c5
    have H1 : ((texts_List.f l0).bind fun t138 => ((num_PutVar.f kj1 ([] : List Int) (IntKind.u64.wrap ((t138.length : Int)))).bind fun t141 => (texts_Put.l0 kj1 l0 t138 t141 t138 (t138.length : Int) 0))) = some (r1, r2) := by rw [if_neg (show ¬ (false = true) by decide)] at H; exact H
    clear H
    have H := H1
    clear H1
    replace H := Option.bind_eq_some_iff.mp H
    obtain ⟨t138, A60, H⟩ := H
    replace H : ((num_PutVar.f kj1 ([] : List Int) (IntKind.u64.wrap ((t138.length : Int)))).bind fun t141 => (texts_Put.l0 kj1 l0 t138 t141 t138 (t138.length : Int) 0)) = some (r1, r2) := H
    have A6 := Aside0.mk A60
    clear A60
    replace H := Option.bind_eq_some_iff.mp H
    obtain ⟨t141, A70, H⟩ := H
    replace H : (texts_Put.l0 kj1 l0 t138 t141 t138 (t138.length : Int) 0) = some (r1, r2) := H
    have A7 := Aside0.mk A70
    clear A70
    have H' := Aside0.mk H
    clear H
    go_wp2_with (first | ((with_reducible refine gate_callee (f := 38) rfl ?_); refine goesL_ (some 24) rfl rfl Tryz.func38 (by kernel_rfl) rfl #[.slice A0 l0.length c0] rfl EA ?_; (with_reducible refine (texts_List.calls _ _ l0 t138 _ ?side1 ?side2 A6.out).mono ?_); (case side1 => exact CU ((Kd.C_below HR0.out HB.out))); (case side2 => exact HC0.out); rintro e w8 ⟨v139, rfl, ho0, hb⟩; refine ⟨_, rfl, ?_⟩; have n0_ := Aside0.mk (Kd.R_lower ho0 (below_size (BU HB.out))); have n1_ := Aside0.mk (below_step (BU HB.out) hb); clear HB; have HO140 := n0_; have HB := n1_; clear n0_ n1_; (try clear hb); (try clear hb2); (try clear hk); (try clear hi); (try clear ho0); obtain ⟨Ao9, co9, eo9⟩ := Kd.R_slice HO140.out; subst eo9) | ((with_reducible refine gate_callee (f := 39) rfl ?_); refine goesL_ (some 28) rfl rfl Tryz.func39 (by kernel_rfl) rfl #[.slice none 0 0, .int .u64 (IntKind.u64.wrap ((t138.length : Int)))] rfl EA ?_; (refine (num_PutVar.calls kj1 (fun k_ => some k_ = (.slice none 0 0 : Value).ownBlock) (.slice none 0 0) ([] : List Int) (IntKind.u64.wrap ((t138.length : Int))) t141 w _ ?side1 ?side2 A7.out).mono ?_); (case side1 => repeat (first | (with_reducible first | exact HB.out | apply below_alloc | apply pw_below_drewN | apply below_drew1) | exact HB.out)); (case side2 => exact Kd.R_nil _ _ _ _ _); rintro e w10 ⟨v142, rfl, ho0, hb, hkp⟩; refine ⟨_, rfl, ?_⟩; have n0_ := Aside0.mk (Kd.R_mono (ok' := fun k_ => True) (Kd.R_keptB (HO140.out) hkp (fun k_ hk_ hs_ => (fun e_ => by simp [Value.ownBlock] at e_) hs_)) (fun k_ hk_ => trivial)); have n1_ := Aside0.mk (Kd.R_mono (ok' := fun k_ => True) ho0 (fun k_ hk_ => trivial)); have n2_ := Aside0.mk (hb); clear HO140 HB; have HO140 := n0_; have HO143 := n1_; have HB := n2_; clear n0_ n1_ n2_; (try clear hb); (try clear hkp); (try clear ho0)))
    go_loopg [5, 31] kj1 (fun kq v5 v31 w' => ∃ (x5_2 : List Int) (x31_2 : Int), v31 = .int .i64 x31_2 ∧ Aside0 (texts_Put.l0 kq l0 t138 x5_2 t138 (t138.length : Int) x31_2 = some (r1, r2)) ∧ Aside0 (kq ≤ kj1) ∧ Aside0 (Kd.R Kd.string 9 w' w.heap.size (fun _ => True) (.slice Ao9 t138.length co9) t138) ∧ Aside0 (Kd.R (Kd.int .u8) 5 w' w.heap.size (fun _ => True) v5 x5_2) ∧ Aside0 (Kd.R Kd.string 9 w' w.heap.size (fun _ => True) (.slice Ao9 t138.length co9) t138) ∧ Aside0 (Below w.heap.size w w'))
    case atStart => exact ⟨(t141), (0), EB, H', ⟨Nat.le_refl _⟩, ⟨RU HO140.out⟩, ⟨RU HO143.out⟩, ⟨RU HO140.out⟩, ⟨BU HB.out⟩⟩
    case round =>
     clear H'
     try clear c2
     try clear p2
     try clear c3
     try clear c3b0
     try clear c3b1
     try clear c5
     try clear p2
     obtain ⟨x5_2, x31_2, rfl, HA, HK2, HO_4, HO_5, HO_29, HB⟩ := hrel
     cases gk with
     | zero => exact absurd HA.out (by simp [texts_Put.l0])
     | succ k2 =>
      have H := HA.out
      clear HA
      simp only [texts_Put.l0] at H
      by_cases c11 : x31_2 < (t138.length : Int)
      ·rw [if_pos c11] at H
       have c11b0 : decide (x31_2 < (t138.length : Int)) = true := decide_eq_true c11
       clear c11
       by_cases c12 : 0 ≤ x31_2
       ·rw [if_pos c12] at H
        have c12b0 : decide (0 ≤ x31_2) = true := decide_eq_true c12
        clear c12
        by_cases c13 : x31_2 < (t138.length : Int)
        ·rw [if_pos c13] at H
         have c13b0 : decide (x31_2 < (t138.length : Int)) = true := decide_eq_true c13
         clear c13
         replace H := Option.bind_eq_some_iff.mp H
         obtain ⟨t145, A140, H⟩ := H
         replace H : (texts_Put.l0 k2 l0 t138 t145 t138 (t138.length : Int) (wrap64 (x31_2 + 1))) = some (r1, r2) := H
         have A14 := Aside0.mk A140
         clear A140
         have H' := Aside0.mk H
         clear H
         have p144 : 0 ≤ (x31_2 : Int) := OD
         have q144 : x31_2 < (t138.length : Int) := OD
         obtain ⟨ad144, e144, hx144_0⟩ := Kd.at_string (Kd.R_reads' HO_29.out).2.2 x31_2 p144 q144
         cases e144
         replace p144 := eq_true p144
         replace q144 := eq_true q144
         obtain ⟨Ao15, co15, eo15⟩ := Kd.R_slice HO_5.out
         subst eo15
         go_wp2_with (first | (refine num_PutBlobS.wp (w0 := w) k2 (fun k_ => some k_ = (.slice Ao15 x5_2.length co15 : Value).ownBlock) (.slice Ao15 x5_2.length co15) x5_2 (rdOf ByteArray.empty t138 x31_2) t145 rfl rfl rfl rfl rfl rfl (fun _ => ⟨rfl, rfl⟩) (by first | rfl | exact Or.inr trivial)  ?side1 ?side2 A14.out ?_; (case side1 => repeat (first | (with_reducible first | exact HB.out | apply below_alloc | apply pw_below_drewN | apply below_drew1) | exact HB.out)); (case side2 => exact Kd.R_tight rfl HO_5.out); intro vcA14; rintro e w16 ⟨v146, rfl, ho0, hb, hkp⟩; refine ⟨_, rfl, ?_⟩; have n0_ := Aside0.mk (Kd.R_mono (ok' := fun k_ => True) (Kd.R_keptB ((Kd.R_apart' HO_4.out (Kd.R_typed HO_5.out) (by decide))) hkp (fun k_ hk_ hs_ => (hk_.2) hs_)) (fun k_ hk_ => trivial)); have n1_ := Aside0.mk (Kd.R_mono (ok' := fun k_ => True) (Kd.R_keptB ((Kd.R_apart' HO_29.out (Kd.R_typed HO_5.out) (by decide))) hkp (fun k_ hk_ hs_ => (hk_.2) hs_)) (fun k_ hk_ => trivial)); have n2_ := Aside0.mk (Kd.R_mono (ok' := fun k_ => True) ho0 (fun k_ hk_ => trivial)); have n3_ := Aside0.mk (hb); clear HO_4 HO_29 HB HO_5; have HO_4 := n0_; have HO_29 := n1_; have HO147 := n2_; have HB := n3_; clear n0_ n1_ n2_ n3_; (try clear hb); (try clear hkp); (try clear ho0)))
         go_roundg k2
         case measure => have := HJ1.out; have := HK2.out; omega
         case rel => exact ⟨(t145), (wrap64 (x31_2 + 1)), EB, H', ⟨by have := HJ1.out; have := HK2.out; omega⟩, ⟨RU HO_4.out⟩, ⟨RU HO147.out⟩, ⟨RU HO_29.out⟩, ⟨BU HB.out⟩⟩
        ·rw [if_neg c13] at H
         exact absurd H (by simp)
       ·rw [if_neg c12] at H
        exact absurd H (by simp)
      ·rw [if_neg c11] at H
       have c11b0 : decide (x31_2 < (t138.length : Int)) = false := decide_eq_false c11
       clear c11
       have H' := Aside0.mk H
       clear H
       go_wp2
       go_loopg [8, 42] k2 (fun kq v8 v42 w' => ∃ (x8_3 : List Int) (x42_3 : Int), v42 = .int .i64 x42_3 ∧ Aside0 (texts_Put.l1 kq t138 x5_2 x8_3 l0 (l0.length : Int) x42_3 = some (r1, r2)) ∧ Aside0 (kq ≤ k2) ∧ Aside0 (Kd.R Kd.string 9 w' w.heap.size (fun _ => True) (.slice Ao9 t138.length co9) t138) ∧ Aside0 (Kd.R (Kd.int .u8) 5 w' w.heap.size (fun _ => True) u5 x5_2) ∧ Aside0 (Kd.R (Kd.int .u64) 66 w' w.heap.size (fun _ => True) v8 x8_3) ∧ Aside0 (Below w.heap.size w w'))
       case atStart => exact ⟨(([] : List Int)), (0), EB, H', ⟨Nat.le_refl _⟩, ⟨RU HO_4.out⟩, ⟨RU HO_5.out⟩, ⟨by first | exact Kd.R_nil _ _ _ _ _ | exact Kd.N_nil _ _ _ _ _ | exact Kd.V_nil _ _ _ _ _ | exact Kd.Q_nil _ _ _ _ _ | exact Kd.S_nil _ _ _ _ _⟩, ⟨BU HB.out⟩⟩
       case round =>
        clear H'
        try clear c1
        try clear p1
        try clear q1
        try clear hx1
        try clear c2
        try clear p2
        try clear c3
        try clear c3b0
        try clear c3b1
        try clear c5
        try clear p6
        try clear c11
        try clear c11b0
        try clear c12
        try clear c12b0
        try clear c13
        try clear c13b0
        try clear p14
        try clear q14
        try clear hx14
        try clear hx144_0
        try clear p144
        try clear p2
        try clear q144
        obtain ⟨x8_3, x42_3, rfl, HA, HK3, HO_4, HO_5, HO_8, HB⟩ := hrel
        cases gk with
        | zero => exact absurd HA.out (by simp [texts_Put.l1])
        | succ k3 =>
         have H := HA.out
         clear HA
         simp only [texts_Put.l1] at H
         by_cases c17 : x42_3 < (l0.length : Int)
         ·rw [if_pos c17] at H
          have c17b0 : decide (x42_3 < (l0.length : Int)) = true := decide_eq_true c17
          clear c17
          by_cases c18 : 0 ≤ x42_3
          ·rw [if_pos c18] at H
           have c18b0 : decide (0 ≤ x42_3) = true := decide_eq_true c18
           clear c18
           by_cases c19 : x42_3 < (l0.length : Int)
           ·rw [if_pos c19] at H
            have c19b0 : decide (x42_3 < (l0.length : Int)) = true := decide_eq_true c19
            clear c19
            replace H := Option.bind_eq_some_iff.mp H
            obtain ⟨⟨t149, t150⟩, A200, H⟩ := H
            replace H : (if x8_3.length < 17592186044416 then (texts_Put.l1 k3 t138 x5_2 (x8_3 ++ [IntKind.u64.wrap (t149)]) l0 (l0.length : Int) (wrap64 (x42_3 + 1))) else (none)) = some (r1, r2) := H
            have A20 := Aside0.mk A200
            clear A200
            by_cases c21 : x8_3.length < 17592186044416
            ·rw [if_pos c21] at H
             have LMc21 := Aside0.mk c21
             clear c21
             obtain ⟨y151, hy151⟩ : ∃ y_ : List Int, y_ = (x8_3 ++ [IntKind.u64.wrap (t149)]) := ⟨_, rfl⟩
             replace H : (texts_Put.l1 k3 t138 x5_2 y151 l0 (l0.length : Int) (wrap64 (x42_3 + 1))) = some (r1, r2) := by first | (rw [hy151]; with_reducible exact H) | (have H2_ := (Option.bind_some _ _).symm.trans H; rw [hy151]; with_reducible exact H2_) | (have H2_ := (Option.bind_some _ _).symm.trans H; with_reducible exact H2_) | with_reducible exact H | (rw [hy151]; exact H) | exact H
             have Ny151 := Aside0.mk hy151
             clear hy151
             have H' := Aside0.mk H
             clear H
             have p148 : 0 ≤ (x42_3 : Int) := OD
             have q148 : x42_3 < (l0.length : Int) := OD
             obtain ⟨ad148, e148, hx148_0⟩ := Kd.at_string HR0.out x42_3 p148 q148
             cases e148
             replace hx148_0 := (HB.out.cell (World.block_lt_of_cell? w _ hx148_0)).trans hx148_0
             replace p148 := eq_true p148
             replace q148 := eq_true q148
             go_wp2_with (first | ((with_reducible refine gate_callee (f := 41) rfl ?_); refine goesL_ (some 49) rfl rfl Tryz.func41 (by kernel_rfl) rfl #[.slice Ao9 t138.length co9, .string (rdOf ByteArray.empty l0 x42_3)] rfl EA ?_; (with_reducible refine (slices_BinarySearch_string_string.calls k3 _ _ t138 (rdOf ByteArray.empty l0 x42_3) t149 t150 _ ?side1 ?side2 A20.out).mono ?_); (case side1 => exact CU ((Kd.R_reads' HO_4.out).2.2)); (case side2 => exact (Kd.R_reads' HO_4.out).2.1); rintro e w' ⟨rfl, ⟨nd, rfl⟩⟩; refine ⟨_, rfl, ?_⟩) | ((with_reducible refine gate_builtin (b := .append) (xs := #[.tmp 52, .tmp 55]) rfl ?_); at_builtin; refine Kd.R_append (Kd.int .u64) (w0 := w) w.heap.size rfl (.tmp 52) (.tmp 55) 68 66 (.int .u64 0) 8 rfl Tryz.underlying68 info66 rfl (by decide) (by omega) u8 x8_3 (IntKind.u64.wrap (t149)) [.int .u64 (IntKind.u64.wrap (t149))] (fun _ => True) (fun _ => False) rfl rfl ?aP (fun _ hk => hk.elim) ?aF ?aO ?aB ?aS ?aL ?_; (case aP => exact rfl); (case aB => exact (BU HB.out)); (case aF => exact (fun _ _ => trivial)); (case aO => exact (RU HO_8.out)); (case aS => exact (below_size (BU HB.out))); (case aL => have := LMc21.out; omega); intro v152 w22 ho hb hg hat; rw [← Ny151.out] at ho; have n0_ := Aside0.mk (Kd.R_over' (RU HO_4.out) (Kd.R_typed (RU HO_8.out)) (by decide) hg); have n1_ := Aside0.mk (Kd.R_over' (RU HO_5.out) (Kd.R_typed (RU HO_8.out)) (by decide) hg); have n2_ := Aside0.mk (hb); have n3_ := Aside0.mk (ho); clear HO_4 HO_5 HB HO_8; have HO_4 := n0_; have HO_5 := n1_; have HB := n2_; have HO153 := n3_; clear n0_ n1_ n2_ n3_; clear ho hb hg hat))
             go_roundg k3
             case measure => have := HJ1.out; have := HK2.out; have := HK3.out; omega
             case rel => exact ⟨(y151), (wrap64 (x42_3 + 1)), EB, H', ⟨by have := HJ1.out; have := HK2.out; have := HK3.out; omega⟩, ⟨RU HO_4.out⟩, ⟨RU HO_5.out⟩, ⟨RU HO153.out⟩, ⟨BU HB.out⟩⟩
            ·rw [if_neg c21] at H
             exact absurd H (by simp)
           ·rw [if_neg c19] at H
            exact absurd H (by simp)
          ·rw [if_neg c18] at H
           exact absurd H (by simp)
         ·rw [if_neg c17] at H
          have c17b0 : decide (x42_3 < (l0.length : Int)) = false := decide_eq_false c17
          clear c17
          replace H := Option.bind_eq_some_iff.mp H
          obtain ⟨t154, A230, H⟩ := H
          replace H : ((bits_Pack.f k3 x8_3 t154).bind fun bt155 => (if x5_2.length < 140737488355328 then ((some (x5_2 ++ [(t154) % 256] : List Int)).bind fun y159 => (if y159.length + bt155.1.length < 140737488355328 then (some ((y159 ++ bt155.1), bt155.2)) else (none))) else (none))) = some (r1, r2) := H
          have A23 := Aside0.mk A230
          clear A230
          replace H := Option.bind_eq_some_iff.mp H
          obtain ⟨⟨t155, t156⟩, A240, H⟩ := H
          replace H : (if x5_2.length < 140737488355328 then ((some (x5_2 ++ [(t154) % 256] : List Int)).bind fun y159 => (if y159.length + t155.length < 140737488355328 then (some ((y159 ++ t155), t156)) else (none))) else (none)) = some (r1, r2) := H
          have A24 := Aside0.mk A240
          clear A240
          by_cases c25 : x5_2.length < 140737488355328
          ·rw [if_pos c25] at H
           have LMc25 := Aside0.mk c25
           clear c25
           obtain ⟨y159, hy159⟩ : ∃ y_ : List Int, y_ = (x5_2 ++ [(t154) % 256]) := ⟨_, rfl⟩
           replace H : (if y159.length + t155.length < 140737488355328 then (some ((y159 ++ t155), t156)) else (none)) = some (r1, r2) := by first | (rw [hy159]; with_reducible exact H) | (have H2_ := (Option.bind_some _ _).symm.trans H; rw [hy159]; with_reducible exact H2_) | (have H2_ := (Option.bind_some _ _).symm.trans H; with_reducible exact H2_) | with_reducible exact H | (rw [hy159]; exact H) | exact H
           have Ny159 := Aside0.mk hy159
           clear hy159
           by_cases c26 : y159.length + t155.length < 140737488355328
           ·rw [if_pos c26] at H
            have LMc26 := Aside0.mk c26
            clear c26
            obtain ⟨y162, hy162⟩ : ∃ y_ : List Int, y_ = (y159 ++ t155) := ⟨_, rfl⟩
            replace H : (some (y162, t156)) = some (r1, r2) := by first | (rw [hy162]; with_reducible exact H) | (have H2_ := (Option.bind_some _ _).symm.trans H; rw [hy162]; with_reducible exact H2_) | (have H2_ := (Option.bind_some _ _).symm.trans H; with_reducible exact H2_) | with_reducible exact H | (rw [hy162]; exact H) | exact H
            have Ny162 := Aside0.mk hy162
            clear hy162
            simp only [Option.some.injEq, Prod.mk.injEq] at H
            obtain ⟨rfl, rfl⟩ := H
            go_wp2_with (first | ((with_reducible refine gate_callee (f := 42) rfl ?_); refine goesL_ (some 60) rfl rfl Tryz.func42 (by kernel_rfl) rfl #[.int .i64 (t138.length : Int)] rfl EA ?_; (with_reducible refine (texts_width.calls (t138.length : Int) t154 _ A23.out).mono ?_); rintro e w27 ⟨rfl, hb⟩; refine ⟨_, rfl, ?_⟩; have n0_ := Aside0.mk (Kd.R_below (RU HO_4.out) hb); have n1_ := Aside0.mk (Kd.R_below (RU HO_5.out) hb); have n2_ := Aside0.mk (Kd.R_below (RU HO_8.out) hb); have n3_ := Aside0.mk (below_step (BU HB.out) hb); clear HO_4 HO_5 HO_8 HB; have HO_4 := n0_; have HO_5 := n1_; have HO_8 := n2_; have HB := n3_; clear n0_ n1_ n2_ n3_; (try clear hb); (try clear hb2); (try clear hk); (try clear hi); obtain ⟨Ao28, co28, eo28⟩ := Kd.R_slice HO_8.out; subst eo28) | ((with_reducible refine gate_callee (f := 43) rfl ?_); refine goesL_ (some 64) rfl rfl Tryz.func43 (by kernel_rfl) rfl #[.slice Ao28 x8_3.length co28, .int .i64 t154] rfl EA ?_; (with_reducible refine (bits_Pack.calls k3 _ _ x8_3 t154 t155 t156 _ ?side1 ?side2 A24.out).mono ?_); (case side1 => exact CU ((Kd.R_reads' HO_8.out).2.2)); (case side2 => exact (Kd.R_reads' HO_8.out).2.1); rintro e w29 ⟨v157, rfl, ho0, hb⟩; refine ⟨_, rfl, ?_⟩; have n0_ := Aside0.mk (Kd.R_below (RU HO_4.out) hb); have n1_ := Aside0.mk (Kd.R_elder' (RU HO_5.out) (Kd.R_base ho0) hb); have n2_ := Aside0.mk (Kd.R_below (RU HO_8.out) hb); have n3_ := Aside0.mk (Kd.R_lower (Kd.R_new' ho0 (Kd.R_lt (RU HO_5.out))) (below_size (BU HB.out))); have n4_ := Aside0.mk (below_step (BU HB.out) hb); clear HO_4 HO_5 HO_8 HB; have HO_4 := n0_; have HO_5 := n1_; have HO_8 := n2_; have HO158 := n3_; have HB := n4_; clear n0_ n1_ n2_ n3_ n4_; (try clear hb); (try clear hb2); (try clear hk); (try clear hi); (try clear ho0)) | ((with_reducible refine gate_builtin (b := .append) (xs := #[.tmp 67, .tmp 70]) rfl ?_); at_builtin; refine Kd.R_append (Kd.int .u8) (w0 := w) w.heap.size rfl (.tmp 67) (.tmp 70) 25 5 (.int .u8 0) 1 rfl Tryz.underlying25 info5 rfl (by decide) (by omega) u5 x5_2 ((t154) % 256) [.int .u8 ((t154) % 256)] (fun k_ => some k_ ≠ (v157 : Value).ownBlock) (fun _ => False) rfl rfl ?aP (fun _ hk => hk.elim) ?aF ?aO ?aB ?aS ?aL ?_; (case aP => exact rfl); (case aB => exact (BU HB.out)); (case aF => exact (fun k_ hk => Kd.fresh' (Kd.R_lt (RU HO158.out)) k_ hk)); (case aO => exact (RU (Kd.R_mono HO_5.out (fun _ hk => hk.2)))); (case aS => exact (below_size (BU HB.out))); (case aL => have := LMc25.out; omega); intro v160 w30 ho hb hg hat; rw [← Ny159.out] at ho; have n0_ := Aside0.mk (Kd.R_over' (RU HO_4.out) (Kd.R_typed (RU HO_5.out)) (by decide) hg); have n1_ := Aside0.mk (Kd.R_over' (RU HO_8.out) (Kd.R_typed (RU HO_5.out)) (by decide) hg); have n2_ := Aside0.mk (Kd.R_after (ok := (fun _ => True)) (RU HO158.out) hg hat); have n3_ := Aside0.mk (hb); have n4_ := Aside0.mk (ho); clear HO_4 HO_8 HO158 HB HO_5; have HO_4 := n0_; have HO_8 := n1_; have HO158 := n2_; have HB := n3_; have HO161 := n4_; clear n0_ n1_ n2_ n3_ n4_; clear ho hb hg hat; obtain ⟨Ao32, co32, eo32⟩ := Kd.R_slice HO158.out; subst eo32) | ((with_reducible refine gate_builtin (b := .append) (xs := #[.tmp 71, .tmp 72]) rfl ?_); at_builtin; refine Kd.R_append_rows (Kd.int .u8) (w0 := w) w.heap.size rfl (.tmp 71) (.tmp 72) 25 5 (.int .u8 0) 1 rfl Tryz.underlying25 info5 rfl (by decide) (by omega) v160 y159 t155 _ _ _ (fun k_ => some k_ ≠ (.slice Ao32 t155.length co32 : Value).ownBlock) (fun _ => False) rfl rfl ?aO ?aR (fun _ _ h => h) (fun _ h => h.elim) ?aF ?aB ?aS ?aL ?_; (case aR => exact CU ((Kd.R_reads' HO158.out).2.2)); (case aB => exact (BU HB.out)); (case aF => exact (fun k_ hk => Kd.fresh' (Kd.R_lt (RU HO158.out)) k_ hk)); (case aO => exact (RU HO161.out)); (case aS => exact (below_size (BU HB.out))); (case aL => have := LMc26.out; omega); intro v163 w31 ho hb hg hat; rw [← Ny162.out] at ho; have n0_ := Aside0.mk (Kd.R_over' (RU HO_4.out) (Kd.R_typed (RU HO161.out)) (by decide) hg); have n1_ := Aside0.mk (Kd.R_over' (RU HO_8.out) (Kd.R_typed (RU HO161.out)) (by decide) hg); have n2_ := Aside0.mk (Kd.R_after (ok := (fun _ => True)) (RU HO158.out) hg hat); have n3_ := Aside0.mk (hb); have n4_ := Aside0.mk (ho); clear HO_4 HO_8 HO158 HB HO161; have HO_4 := n0_; have HO_8 := n1_; have HO158 := n2_; have HB := n3_; have HO164 := n4_; clear n0_ n1_ n2_ n3_ n4_; clear ho hb hg hat))
            go_ret2
            exact ⟨_, by first | rfl | (simp [errW_none, errW_some] <;> rfl) | (simp [*, errW_none, errW_some] <;> rfl), RU (Kd.R_mono HO164.out (fun _ hk => trivial)), BU HB.out⟩
           ·rw [if_neg c26] at H
            exact absurd H (by simp)
          ·rw [if_neg c25] at H
           exact absurd H (by simp)

/-! ### num_Zig: function 78 -/
def num_Zig.f (a0 : Int) : Option (Int) := some (Go.bits .xor .u64 (IntKind.u64.wrap ((IntKind.u64.wrap (a0)) * 2)) (IntKind.u64.wrap (a0 / 9223372036854775808)))
set_option maxHeartbeats 8000000 in
set_option maxRecDepth 100000 in
theorem num_Zig.calls (a0 : Int) (r : Int) (w : World) (h : num_Zig.f a0 = some r) :
  Calls Tryz.prog 78 #[.int .i64 a0] w fun e w' => e = .returned (.int .u64 r) ∧ Drawn0 w w' := by
 have H : (some (Go.bits .xor .u64 (IntKind.u64.wrap ((IntKind.u64.wrap (a0)) * 2)) (IntKind.u64.wrap (a0 / 9223372036854775808)))) = some r := h
 clear h
 obtain rfl := Option.some.inj H
 go_enter Tryz.func78, Tryz.ntmps78
 go_wp2
 go_ret
 exact ⟨by first | rfl | (simp; done) | (simp [*]; done), by repeat (first | exact Drawn0.refl _ | apply Drawn0.step)⟩

/-! ### plain_Put: function 44 -/
def plain_Put.l0 : Nat → List Int → List Int → Int → Int → Option (List Int × Int)
 | 0, _, _, _, _ => none
 | k + 1, x4, x10, x11, x12 => if x12 < x11 then (if 0 ≤ x12 then (if x12 < (x10.length : Int) then ((num_Zig.f (rd x10 x12)).bind fun t166 => ((num_PutVar.f k x4 t166).bind fun t167 => (plain_Put.l0 k t167 x10 x11 (wrap64 (x12 + 1))))) else (none)) else (none)) else (some (x4, 0))
def plain_Put.f (k : Nat) (l0 : List Int) : Option (List Int × Int) := if (l0.length : Int) > 65536 then (some (([] : List Int), 12)) else (plain_Put.l0 k ([] : List Int) l0 (l0.length : Int) 0)
set_option maxHeartbeats 8000000 in
set_option maxRecDepth 100000 in
theorem plain_Put.calls (k : Nat) (A0 : Option Addr) (c0 : Nat) (l0 : List Int) (r1 : List Int) (r2 : Int) (w : World) (hr0 : Kd.C (Kd.int .i64) w A0 l0.length l0) (hc0 : l0.length ≤ c0) (h : plain_Put.f k l0 = some (r1, r2)) :
  Calls Tryz.prog 44 #[.slice A0 l0.length c0] w fun e w' => ∃ v0_ : Value, e = .returned (.tuple #[v0_, .int .i64 r2]) ∧ Kd.R (Kd.int .u8) 5 w' w.heap.size (fun _ => True) v0_ r1 ∧ Below w.heap.size w w' := by
 have HR0 := Aside0.mk hr0
 have HC0 := Aside0.mk hc0
 clear hr0 hc0
 have HB := Aside0.mk (Below.refl w.heap.size w)
 have H : (if (l0.length : Int) > 65536 then (some (([] : List Int), 12)) else (plain_Put.l0 k ([] : List Int) l0 (l0.length : Int) 0)) = some (r1, r2) := h
 clear h
 by_cases c2 : (l0.length : Int) > 65536
 ·rw [if_pos c2] at H
  have c2b0 : decide (65536 < (l0.length : Int)) = true := decide_eq_true c2
  have c2b1 : decide (65536 < l0.length) = true := decide_eq_true (by omega)
  clear c2
  simp only [Option.some.injEq, Prod.mk.injEq] at H
  obtain ⟨rfl, rfl⟩ := H
  go_enter Tryz.func44, Tryz.ntmps44
  go_wp2
  go_ret2
  exact ⟨_, by first | rfl | (simp [errW_none, errW_some] <;> rfl) | (simp [*, errW_none, errW_some] <;> rfl), by first | exact Kd.R_nil _ _ _ _ _ | exact Kd.N_nil _ _ _ _ _ | exact Kd.V_nil _ _ _ _ _ | exact Kd.Q_nil _ _ _ _ _ | exact Kd.S_nil _ _ _ _ _, BU HB.out⟩
 ·rw [if_neg c2] at H
  have c2b0 : decide (65536 < (l0.length : Int)) = false := decide_eq_false c2
  have c2b1 : decide (65536 < l0.length) = false := decide_eq_false (by omega)
  clear c2
  have H' := Aside0.mk H
  clear H
  go_enter Tryz.func44, Tryz.ntmps44
  go_wp2
  go_loopg [4, 12] k (fun kq v4 v12 w' => ∃ (x4_1 : List Int) (x12_1 : Int), v12 = .int .i64 x12_1 ∧ Aside0 (plain_Put.l0 kq x4_1 l0 (l0.length : Int) x12_1 = some (r1, r2)) ∧ Aside0 (kq ≤ k) ∧ Aside0 (Kd.R (Kd.int .u8) 5 w' w.heap.size (fun _ => True) v4 x4_1) ∧ Aside0 (Below w.heap.size w w'))
  case atStart => exact ⟨(([] : List Int)), (0), EB, H', ⟨Nat.le_refl _⟩, ⟨by first | exact Kd.R_nil _ _ _ _ _ | exact Kd.N_nil _ _ _ _ _ | exact Kd.V_nil _ _ _ _ _ | exact Kd.Q_nil _ _ _ _ _ | exact Kd.S_nil _ _ _ _ _⟩, ⟨BU HB.out⟩⟩
  case round =>
   clear H'
   try clear c2
   try clear c2b0
   try clear c2b1
   try clear p2
   obtain ⟨x4_1, x12_1, rfl, HA, HK1, HO_4, HB⟩ := hrel
   cases gk with
   | zero => exact absurd HA.out (by simp [plain_Put.l0])
   | succ k1 =>
    have H := HA.out
    clear HA
    simp only [plain_Put.l0] at H
    by_cases c3 : x12_1 < (l0.length : Int)
    ·rw [if_pos c3] at H
     have c3b0 : decide (x12_1 < (l0.length : Int)) = true := decide_eq_true c3
     clear c3
     by_cases c4 : 0 ≤ x12_1
     ·rw [if_pos c4] at H
      have c4b0 : decide (0 ≤ x12_1) = true := decide_eq_true c4
      clear c4
      by_cases c5 : x12_1 < (l0.length : Int)
      ·rw [if_pos c5] at H
       have c5b0 : decide (x12_1 < (l0.length : Int)) = true := decide_eq_true c5
       clear c5
       replace H := Option.bind_eq_some_iff.mp H
       obtain ⟨t166, A60, H⟩ := H
       replace H : ((num_PutVar.f k1 x4_1 t166).bind fun t167 => (plain_Put.l0 k1 t167 l0 (l0.length : Int) (wrap64 (x12_1 + 1)))) = some (r1, r2) := H
       have A6 := Aside0.mk A60
       clear A60
       replace H := Option.bind_eq_some_iff.mp H
       obtain ⟨t167, A70, H⟩ := H
       replace H : (plain_Put.l0 k1 t167 l0 (l0.length : Int) (wrap64 (x12_1 + 1))) = some (r1, r2) := H
       have A7 := Aside0.mk A70
       clear A70
       have H' := Aside0.mk H
       clear H
       have p165 : 0 ≤ (x12_1 : Int) := OD
       have q165 : x12_1 < (l0.length : Int) := OD
       obtain ⟨ad165, e165, hx165_0⟩ := Kd.at_int HR0.out x12_1 p165 q165
       cases e165
       replace hx165_0 := (HB.out.cell (World.block_lt_of_cell? w _ hx165_0)).trans hx165_0
       replace p165 := eq_true p165
       replace q165 := eq_true q165
       go_wp2_with (first | ((with_reducible refine gate_callee (f := 78) rfl ?_); refine goesL_ (some 18) rfl rfl Tryz.func78 (by kernel_rfl) rfl #[.int .i64 (rd l0 x12_1)] rfl EA ?_; (with_reducible refine (num_Zig.calls (rd l0 x12_1) t166 _ A6.out).mono ?_); rintro e w' ⟨rfl, ⟨nd, rfl⟩⟩; refine ⟨_, rfl, ?_⟩; obtain ⟨Ao8, co8, eo8⟩ := Kd.R_slice HO_4.out; subst eo8) | ((with_reducible refine gate_callee (f := 39) rfl ?_); refine goesL_ (some 19) rfl rfl Tryz.func39 (by kernel_rfl) rfl #[.slice Ao8 x4_1.length co8, .int .u64 t166] rfl EA ?_; (with_reducible refine (num_PutVar.calls k1 (fun k_ => some k_ = (.slice Ao8 x4_1.length co8 : Value).ownBlock) (.slice Ao8 x4_1.length co8) x4_1 t166 t167 w _ ?side1 ?side2 A7.out).mono ?_); (case side1 => repeat (first | (with_reducible first | exact HB.out | apply below_alloc | apply pw_below_drewN | apply below_drew1) | exact HB.out)); (case side2 => exact Kd.R_tight rfl HO_4.out); rintro e w9 ⟨v168, rfl, ho0, hb, hkp⟩; refine ⟨_, rfl, ?_⟩; have n0_ := Aside0.mk (Kd.R_mono (ok' := fun k_ => True) ho0 (fun k_ hk_ => trivial)); have n1_ := Aside0.mk (hb); clear HB HO_4; have HO169 := n0_; have HB := n1_; clear n0_ n1_; (try clear hb); (try clear hkp); (try clear ho0)))
       go_roundg k1
       case measure => have := HK1.out; omega
       case rel => exact ⟨(t167), (wrap64 (x12_1 + 1)), EB, H', ⟨by have := HK1.out; omega⟩, ⟨RU HO169.out⟩, ⟨BU HB.out⟩⟩
      ·rw [if_neg c5] at H
       exact absurd H (by simp)
     ·rw [if_neg c4] at H
      exact absurd H (by simp)
    ·rw [if_neg c3] at H
     have c3b0 : decide (x12_1 < (l0.length : Int)) = false := decide_eq_false c3
     clear c3
     simp only [Option.some.injEq, Prod.mk.injEq] at H
     obtain ⟨rfl, rfl⟩ := H
     go_wp2
     go_ret2
     exact ⟨_, by first | rfl | (simp [errW_none, errW_some] <;> rfl) | (simp [*, errW_none, errW_some] <;> rfl), RU HO_4.out, BU HB.out⟩

/-! ### bytes_Clone: function 108 -/
end Go.Proofs.YtefcchpjbojdkaaGreatDoor.PChunkPuts
