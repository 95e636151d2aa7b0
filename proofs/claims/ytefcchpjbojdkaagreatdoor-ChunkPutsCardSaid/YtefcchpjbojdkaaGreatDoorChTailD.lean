/- WRITTEN BY A PROGRAM (the printer's blocks of the last functions). -/
import Derived.Test.YtefcchpjbojdkaaGreatDoorChTailB
import Derived.Test.YtefcchpjbojdkaaGreatDoorPChunkPutsx15
import Derived.Test.YtefcchpjbojdkaaGreatDoorChTailA
namespace Go.Proofs.YtefcchpjbojdkaaGreatDoor.PChunkPuts
open Go.RowKit Go.Proofs.YtefcchpjbojdkaaGreatDoorW.PrintWords Go.Proofs.YtefcchpjbojdkaaGreatDoorW.PrintLast Go.Proofs.YtefcchpjbojdkaaGreatDoorW.PrintMore
attribute [local go_sem] max2_int min2_int max_two min_two max_three min_three max_four min_four   -- for this text's walks alone
set_option linter.unusedVariables false
set_option linter.unusedSimpArgs false

/-! ### estreatref14_Best: function 10 -/
mutual
def estreatref14_Best.j0 : Nat → List (S34) → Int → Bool → Option (Int)
 | 0, _, _, _ => none
 | k + 1, x0, x1, x18 => if x18 = true then (some (-1)) else (estreatref14_Best.l0 k x0 x1 (-1) 0)
def estreatref14_Best.l0 : Nat → List (S34) → Int → Int → Int → Option (Int)
 | 0, _, _, _, _ => none
 | k + 1, x0, x1, x5, x6 => if x6 < 6 then ((estreatref14_Of.f x6 x1).bind fun t936 => (if t936 = true then (if x5 < 0 then (estreatref14_Best.l0 k x0 x1 x6 (wrap64 (x6 + 1))) else ((estreatref14_lay.f k x0 x6).bind fun t937 => ((estreatref14_lay.f k x0 x5).bind fun t940 => (if (t937.length : Int) < (t940.length : Int) then (estreatref14_Best.l0 k x0 x1 x6 (wrap64 (x6 + 1))) else (estreatref14_Best.l0 k x0 x1 x5 (wrap64 (x6 + 1))))))) else (estreatref14_Best.l0 k x0 x1 x5 (wrap64 (x6 + 1))))) else (some x5)
end
def estreatref14_Best.f (k : Nat) (l0 : List (S34)) (a1 : Int) : Option (Int) := if a1 = 1 then ((estreatref14_Check.f k l0 a1).bind fun t934 => (estreatref14_Best.j0 k l0 a1 (t934 != 0))) else (if a1 = 2 then ((estreatref14_Check.f k l0 a1).bind fun t935 => (estreatref14_Best.j0 k l0 a1 (t935 != 0))) else (estreatref14_Best.j0 k l0 a1 true))
set_option maxHeartbeats 8000000 in
set_option maxRecDepth 100000 in
theorem estreatref14_Best.calls (k : Nat) (A0 : Option Addr) (c0 : Nat) (l0 : List (S34)) (a1 : Int) (r : Int) (w : World) (hr0 : Kd.C k34 w A0 l0.length l0) (hc0 : l0.length ≤ c0) (h : estreatref14_Best.f k l0 a1 = some r) :
  Calls Tryz.prog 10 #[.slice A0 l0.length c0, .int .i64 a1] w fun e w' => e = .returned (.int .i64 r) ∧ Below w.heap.size w w' := by
 have HR0 := Aside0.mk hr0
 have HC0 := Aside0.mk hc0
 clear hr0 hc0
 have HB := Aside0.mk (Below.refl w.heap.size w)
 have H : (if a1 = 1 then ((estreatref14_Check.f k l0 a1).bind fun t934 => (estreatref14_Best.j0 k l0 a1 (t934 != 0))) else (if a1 = 2 then ((estreatref14_Check.f k l0 a1).bind fun t935 => (estreatref14_Best.j0 k l0 a1 (t935 != 0))) else (estreatref14_Best.j0 k l0 a1 true))) = some r := h
 clear h
 have HC3 := Aside0.mk H
 clear H
 go_enter Tryz.func10, Tryz.ntmps10
 go_upto_region 1 with (fail)
 go_cut [18] (fun v18 wc => ∃ (kq : Nat) (x18_2 : Bool), v18 = .bool x18_2 ∧ Aside0 (estreatref14_Best.j0 kq l0 a1 x18_2 = some r) ∧ Aside0 (kq ≤ k) ∧ Aside0 (Below w.heap.size w wc))
 case first =>
  have H := HC3.out
  clear HC3
  by_cases c4 : a1 = 1
  ·rw [if_pos c4] at H
   have c4b0 : (a1 == 1) = true := beq_iff_eq.mpr c4
   have c4b1 : (a1 != 1) = false := bne_eq_false_iff_eq.mpr c4
   clear c4
   (first | rw [c4b0] | (simp only [i64_w, i32_w]; rw [c4b0]) | skip)
   replace H := Option.bind_eq_some_iff.mp H
   obtain ⟨t934, A50, H⟩ := H
   replace H : (estreatref14_Best.j0 k l0 a1 (t934 != 0)) = some r := H
   have A5 := Aside0.mk A50
   clear A50
   have H' := Aside0.mk H
   clear H
   go_wp2_with (first | (go_at_call 16; (with_reducible refine (estreatref14_Check.calls k _ _ l0 a1 t934 _ ?side1 ?side2 A5.out).mono ?_); (case side1 => exact CU ((Kd.C_below HR0.out HB.out))); (case side2 => exact HC0.out); rintro e w6 ⟨rfl, hb⟩; have n0_ := Aside0.mk (below_step (BU HB.out) hb); clear HB; have HB := n0_; clear n0_; (try clear hb); (try clear hb2); (try clear hk); (try clear hi)))
   go_meet
   case rel => exact ⟨_, ((t934 != 0)), EB, H', ⟨by first | omega | exact Nat.le_refl _⟩, ⟨BU HB.out⟩⟩
  ·rw [if_neg c4] at H
   have c4b0 : (a1 == 1) = false := beq_eq_false_iff_ne.mpr c4
   have c4b1 : (a1 != 1) = true := bne_iff_ne.mpr c4
   (first | rw [c4b0] | (simp only [i64_w, i32_w]; rw [c4b0]) | skip)
   by_cases c7 : a1 = 2
   ·rw [if_pos c7] at H
    have c7b0 : (a1 == 2) = true := beq_iff_eq.mpr c7
    have c7b1 : (a1 != 2) = false := bne_eq_false_iff_eq.mpr c7
    clear c7
    replace H := Option.bind_eq_some_iff.mp H
    obtain ⟨t935, A80, H⟩ := H
    replace H : (estreatref14_Best.j0 k l0 a1 (t935 != 0)) = some r := H
    have A8 := Aside0.mk A80
    clear A80
    have H' := Aside0.mk H
    clear H
    go_wp2_with (first | (go_at_call 16; (with_reducible refine (estreatref14_Check.calls k _ _ l0 a1 t935 _ ?side1 ?side2 A8.out).mono ?_); (case side1 => exact CU ((Kd.C_below HR0.out HB.out))); (case side2 => exact HC0.out); rintro e w9 ⟨rfl, hb⟩; have n0_ := Aside0.mk (below_step (BU HB.out) hb); clear HB; have HB := n0_; clear n0_; (try clear hb); (try clear hb2); (try clear hk); (try clear hi)))
    go_meet
    case rel => exact ⟨_, ((t935 != 0)), EB, H', ⟨by first | omega | exact Nat.le_refl _⟩, ⟨BU HB.out⟩⟩
   ·rw [if_neg c7] at H
    have c7b0 : (a1 == 2) = false := beq_eq_false_iff_ne.mpr c7
    have c7b1 : (a1 != 2) = true := bne_iff_ne.mpr c7
    have H' := Aside0.mk H
    clear H
    go_wp2
    go_meet
    case rel => exact ⟨_, (true), EB, H', ⟨by first | omega | exact Nat.le_refl _⟩, ⟨BU HB.out⟩⟩
 case rest =>
  clear HC3
  try clear c1
  try clear p2
  try clear c4
  try clear c4b0
  try clear c4b1
  try clear c7
  try clear c7b0
  try clear c7b1
  obtain ⟨kq, x18_2, rfl, HA, HJ2, HB⟩ := hcut
  cases kq with
  | zero => exact absurd HA.out (by simp [estreatref14_Best.j0])
  | succ kj2 =>
   have H := HA.out
   clear HA
   simp only [estreatref14_Best.j0] at H
   by_cases c10 : x18_2 = true
   ·subst c10
    have H1 : (some (-1)) = some r := by rw [if_pos rfl] at H; exact H
    clear H
    have H := H1
    clear H1
    obtain rfl := Option.some.inj H
    go_wp2
    go_ret
    exact ⟨by first | rfl | (simp [errW_none, errW_some] <;> rfl) | (simp [*, errW_none, errW_some] <;> rfl), BU HB.out⟩
   ·replace c10 := Bool.eq_false_iff.mpr c10
    subst c10
    have H1 : (estreatref14_Best.l0 kj2 l0 a1 (-1) 0) = some r := by rw [if_neg (show ¬ (false = true) by decide)] at H; exact H
    clear H
    have H := H1
    clear H1
    have H' := Aside0.mk H
    clear H
    go_wp2
    go_loopg [5, 6] kj2 (fun kq v5 v6 w' => ∃ (x5_2 : Int) (x6_2 : Int), v5 = .int .i64 x5_2 ∧ v6 = .int .i64 x6_2 ∧ Aside0 (estreatref14_Best.l0 kq l0 a1 x5_2 x6_2 = some r) ∧ Aside0 (kq ≤ kj2) ∧ Aside0 (Below w.heap.size w w'))
    case atStart => exact ⟨((-1)), (0), EB, EB, H', ⟨Nat.le_refl _⟩, ⟨BU HB.out⟩⟩
    case round =>
     clear H'
     try clear c1
     try clear p2
     try clear c4
     try clear c4b0
     try clear c4b1
     try clear c7
     try clear c7b0
     try clear c7b1
     try clear c10
     try clear p2
     obtain ⟨x5_2, x6_2, rfl, rfl, HA, HK2, HB⟩ := hrel
     cases gk with
     | zero => exact absurd HA.out (by simp [estreatref14_Best.l0])
     | succ k2 =>
      have H := HA.out
      clear HA
      simp only [estreatref14_Best.l0] at H
      by_cases c11 : x6_2 < 6
      ·rw [if_pos c11] at H
       have c11b0 : decide (x6_2 < 6) = true := decide_eq_true c11
       clear c11
       replace H := Option.bind_eq_some_iff.mp H
       obtain ⟨t936, A120, H⟩ := H
       replace H : (if t936 = true then (if x5_2 < 0 then (estreatref14_Best.l0 k2 l0 a1 x6_2 (wrap64 (x6_2 + 1))) else ((estreatref14_lay.f k2 l0 x6_2).bind fun t937 => ((estreatref14_lay.f k2 l0 x5_2).bind fun t940 => (if (t937.length : Int) < (t940.length : Int) then (estreatref14_Best.l0 k2 l0 a1 x6_2 (wrap64 (x6_2 + 1))) else (estreatref14_Best.l0 k2 l0 a1 x5_2 (wrap64 (x6_2 + 1))))))) else (estreatref14_Best.l0 k2 l0 a1 x5_2 (wrap64 (x6_2 + 1)))) = some r := H
       have A12 := Aside0.mk A120
       clear A120
       by_cases c13 : t936 = true
       ·subst c13
        have H1 : (if x5_2 < 0 then (estreatref14_Best.l0 k2 l0 a1 x6_2 (wrap64 (x6_2 + 1))) else ((estreatref14_lay.f k2 l0 x6_2).bind fun t937 => ((estreatref14_lay.f k2 l0 x5_2).bind fun t940 => (if (t937.length : Int) < (t940.length : Int) then (estreatref14_Best.l0 k2 l0 a1 x6_2 (wrap64 (x6_2 + 1))) else (estreatref14_Best.l0 k2 l0 a1 x5_2 (wrap64 (x6_2 + 1))))))) = some r := by rw [if_pos rfl] at H; exact H
        clear H
        have H := H1
        clear H1
        by_cases c14 : x5_2 < 0
        ·rw [if_pos c14] at H
         have c14b0 : decide (x5_2 < 0) = true := decide_eq_true c14
         clear c14
         have H' := Aside0.mk H
         clear H
         go_wp2_with (first | ((with_reducible refine gate_callee (f := 15) rfl ?_); refine goesL_ (some 25) rfl rfl Tryz.func15 (by kernel_rfl) rfl #[.int .i64 x6_2, .int .i64 a1] rfl EA ?_; (with_reducible refine (estreatref14_Of.calls x6_2 a1 true _ A12.out).mono ?_); rintro e w' ⟨rfl, ⟨nd, rfl⟩⟩; refine ⟨_, rfl, ?_⟩))
         go_roundg k2
         case measure => have := HJ2.out; have := HK2.out; omega
         case rel => exact ⟨(x6_2), (wrap64 (x6_2 + 1)), EB, EB, H', ⟨by have := HJ2.out; have := HK2.out; omega⟩, ⟨BU HB.out⟩⟩
        ·rw [if_neg c14] at H
         have c14b0 : decide (x5_2 < 0) = false := decide_eq_false c14
         clear c14
         replace H := Option.bind_eq_some_iff.mp H
         obtain ⟨t937, A150, H⟩ := H
         replace H : ((estreatref14_lay.f k2 l0 x5_2).bind fun t940 => (if (t937.length : Int) < (t940.length : Int) then (estreatref14_Best.l0 k2 l0 a1 x6_2 (wrap64 (x6_2 + 1))) else (estreatref14_Best.l0 k2 l0 a1 x5_2 (wrap64 (x6_2 + 1))))) = some r := H
         have A15 := Aside0.mk A150
         clear A150
         replace H := Option.bind_eq_some_iff.mp H
         obtain ⟨t940, A160, H⟩ := H
         replace H : (if (t937.length : Int) < (t940.length : Int) then (estreatref14_Best.l0 k2 l0 a1 x6_2 (wrap64 (x6_2 + 1))) else (estreatref14_Best.l0 k2 l0 a1 x5_2 (wrap64 (x6_2 + 1)))) = some r := H
         have A16 := Aside0.mk A160
         clear A160
         by_cases c17 : (t937.length : Int) < (t940.length : Int)
         ·rw [if_pos c17] at H
          have c17b0 : decide ((t937.length : Int) < (t940.length : Int)) = true := decide_eq_true c17
          have c17b1 : decide (t937.length < t940.length) = true := decide_eq_true (Int.ofNat_lt.mp c17)
          clear c17
          have H' := Aside0.mk H
          clear H
          go_wp2_with (first | ((with_reducible refine gate_callee (f := 15) rfl ?_); refine goesL_ (some 25) rfl rfl Tryz.func15 (by kernel_rfl) rfl #[.int .i64 x6_2, .int .i64 a1] rfl EA ?_; (with_reducible refine (estreatref14_Of.calls x6_2 a1 true _ A12.out).mono ?_); rintro e w' ⟨rfl, ⟨nd, rfl⟩⟩; refine ⟨_, rfl, ?_⟩) | (go_at_call 17; (with_reducible refine (estreatref14_lay.calls k2 _ _ l0 x6_2 t937 _ ?side1 ?side2 A15.out).mono ?_); (case side1 => exact CU ((Kd.C_below HR0.out (BU HB.out)))); (case side2 => exact HC0.out); rintro e w18 ⟨v938, rfl, ho0, hb⟩; have n0_ := Aside0.mk (Kd.R_lower ho0 (below_size (BU HB.out))); have n1_ := Aside0.mk (below_step (BU HB.out) hb); clear HB; have HO939 := n0_; have HB := n1_; clear n0_ n1_; (try clear hb); (try clear hb2); (try clear hk); (try clear hi); (try clear ho0); obtain ⟨Ao19, co19, eo19⟩ := Kd.R_slice HO939.out; subst eo19) | (go_at_call 17; (with_reducible refine (estreatref14_lay.calls k2 _ _ l0 x5_2 t940 _ ?side1 ?side2 A16.out).mono ?_); (case side1 => exact CU ((Kd.C_below HR0.out HB.out))); (case side2 => exact HC0.out); rintro e w20 ⟨v941, rfl, ho0, hb⟩; have n0_ := Aside0.mk (Kd.R_elder' (RU HO939.out) (Kd.R_base ho0) hb); have n1_ := Aside0.mk (Kd.R_lower (Kd.R_new' ho0 (Kd.R_lt (RU HO939.out))) (below_size (BU HB.out))); have n2_ := Aside0.mk (below_step (BU HB.out) hb); clear HO939 HB; have HO939 := n0_; have HO942 := n1_; have HB := n2_; clear n0_ n1_ n2_; (try clear hb); (try clear hb2); (try clear hk); (try clear hi); (try clear ho0); obtain ⟨Ao21, co21, eo21⟩ := Kd.R_slice HO942.out; subst eo21))
          go_roundg k2
          case measure => have := HJ2.out; have := HK2.out; omega
          case rel => exact ⟨(x6_2), (wrap64 (x6_2 + 1)), EB, EB, H', ⟨by have := HJ2.out; have := HK2.out; omega⟩, ⟨BU HB.out⟩⟩
         ·rw [if_neg c17] at H
          have c17b0 : decide ((t937.length : Int) < (t940.length : Int)) = false := decide_eq_false c17
          have c17b1 : decide (t937.length < t940.length) = false := decide_eq_false (fun h => c17 (Int.ofNat_lt.mpr h))
          clear c17
          have H' := Aside0.mk H
          clear H
          go_wp2_with (first | ((with_reducible refine gate_callee (f := 15) rfl ?_); refine goesL_ (some 25) rfl rfl Tryz.func15 (by kernel_rfl) rfl #[.int .i64 x6_2, .int .i64 a1] rfl EA ?_; (with_reducible refine (estreatref14_Of.calls x6_2 a1 true _ A12.out).mono ?_); rintro e w' ⟨rfl, ⟨nd, rfl⟩⟩; refine ⟨_, rfl, ?_⟩) | (go_at_call 17; (with_reducible refine (estreatref14_lay.calls k2 _ _ l0 x6_2 t937 _ ?side1 ?side2 A15.out).mono ?_); (case side1 => exact CU ((Kd.C_below HR0.out (BU HB.out)))); (case side2 => exact HC0.out); rintro e w22 ⟨v938, rfl, ho0, hb⟩; have n0_ := Aside0.mk (Kd.R_lower ho0 (below_size (BU HB.out))); have n1_ := Aside0.mk (below_step (BU HB.out) hb); clear HB; have HO939 := n0_; have HB := n1_; clear n0_ n1_; (try clear hb); (try clear hb2); (try clear hk); (try clear hi); (try clear ho0); obtain ⟨Ao23, co23, eo23⟩ := Kd.R_slice HO939.out; subst eo23) | (go_at_call 17; (with_reducible refine (estreatref14_lay.calls k2 _ _ l0 x5_2 t940 _ ?side1 ?side2 A16.out).mono ?_); (case side1 => exact CU ((Kd.C_below HR0.out HB.out))); (case side2 => exact HC0.out); rintro e w24 ⟨v941, rfl, ho0, hb⟩; have n0_ := Aside0.mk (Kd.R_elder' (RU HO939.out) (Kd.R_base ho0) hb); have n1_ := Aside0.mk (Kd.R_lower (Kd.R_new' ho0 (Kd.R_lt (RU HO939.out))) (below_size (BU HB.out))); have n2_ := Aside0.mk (below_step (BU HB.out) hb); clear HO939 HB; have HO939 := n0_; have HO942 := n1_; have HB := n2_; clear n0_ n1_ n2_; (try clear hb); (try clear hb2); (try clear hk); (try clear hi); (try clear ho0); obtain ⟨Ao25, co25, eo25⟩ := Kd.R_slice HO942.out; subst eo25))
          go_roundg k2
          case measure => have := HJ2.out; have := HK2.out; omega
          case rel => exact ⟨(x5_2), (wrap64 (x6_2 + 1)), EB, EB, H', ⟨by have := HJ2.out; have := HK2.out; omega⟩, ⟨BU HB.out⟩⟩
       ·replace c13 := Bool.eq_false_iff.mpr c13
        subst c13
        have H1 : (estreatref14_Best.l0 k2 l0 a1 x5_2 (wrap64 (x6_2 + 1))) = some r := by rw [if_neg (show ¬ (false = true) by decide)] at H; exact H
        clear H
        have H := H1
        clear H1
        have H' := Aside0.mk H
        clear H
        go_wp2_with (first | ((with_reducible refine gate_callee (f := 15) rfl ?_); refine goesL_ (some 25) rfl rfl Tryz.func15 (by kernel_rfl) rfl #[.int .i64 x6_2, .int .i64 a1] rfl EA ?_; (with_reducible refine (estreatref14_Of.calls x6_2 a1 false _ A12.out).mono ?_); rintro e w' ⟨rfl, ⟨nd, rfl⟩⟩; refine ⟨_, rfl, ?_⟩))
        go_roundg k2
        case measure => have := HJ2.out; have := HK2.out; omega
        case rel => exact ⟨(x5_2), (wrap64 (x6_2 + 1)), EB, EB, H', ⟨by have := HJ2.out; have := HK2.out; omega⟩, ⟨BU HB.out⟩⟩
      ·rw [if_neg c11] at H
       have c11b0 : decide (x6_2 < 6) = false := decide_eq_false c11
       clear c11
       obtain rfl := Option.some.inj H
       go_wp2
       go_ret
       exact ⟨by first | rfl | (simp [errW_none, errW_some] <;> rfl) | (simp [*, errW_none, errW_some] <;> rfl), BU HB.out⟩

/-! ### estreatref14_Put: function 7 -/
def estreatref14_Put.j0 : Nat → List (S34) → Int → Int → Bool → Option (List Int × Int)
 | 0, _, _, _, _ => none
 | k + 1, x0, x1, x2, x24 => if x24 = true then (some (([] : List Int), 1)) else ((estreatref14_Check.f k x0 x1).bind fun t945 => (if t945 = 0 then (if x2 = (-1) then ((estreatref14_Best.f k x0 x1).bind fun t946 => ((estreatref14_lay.f k x0 t946).bind fun t947 => (some (t947, 0)))) else ((estreatref14_lay.f k x0 x2).bind fun t950 => (some (t950, 0)))) else (some (([] : List Int), t945))))
def estreatref14_Put.f (k : Nat) (l0 : List (S34)) (a1 : Int) (a2 : Int) : Option (List Int × Int) := if a1 = 1 then (if a2 = (-1) then (estreatref14_Put.j0 k l0 a1 a2 false) else ((estreatref14_Of.f a2 a1).bind fun t943 => (estreatref14_Put.j0 k l0 a1 a2 (!t943)))) else (if a1 = 2 then (if a2 = (-1) then (estreatref14_Put.j0 k l0 a1 a2 false) else ((estreatref14_Of.f a2 a1).bind fun t944 => (estreatref14_Put.j0 k l0 a1 a2 (!t944)))) else (estreatref14_Put.j0 k l0 a1 a2 true))
set_option maxHeartbeats 8000000 in
set_option maxRecDepth 100000 in
theorem estreatref14_Put.calls (k : Nat) (A0 : Option Addr) (c0 : Nat) (l0 : List (S34)) (a1 : Int) (a2 : Int) (r1 : List Int) (r2 : Int) (w : World) (hr0 : Kd.C k34 w A0 l0.length l0) (hc0 : l0.length ≤ c0) (h : estreatref14_Put.f k l0 a1 a2 = some (r1, r2)) :
  Calls Tryz.prog 7 #[.slice A0 l0.length c0, .int .i64 a1, .int .i64 a2] w fun e w' => ∃ v0_ : Value, e = .returned (.tuple #[v0_, .int .i64 r2]) ∧ Kd.R (Kd.int .u8) 5 w' w.heap.size (fun _ => True) v0_ r1 ∧ Below w.heap.size w w' := by
 have HR0 := Aside0.mk hr0
 have HC0 := Aside0.mk hc0
 clear hr0 hc0
 have HB := Aside0.mk (Below.refl w.heap.size w)
 have H : (if a1 = 1 then (if a2 = (-1) then (estreatref14_Put.j0 k l0 a1 a2 false) else ((estreatref14_Of.f a2 a1).bind fun t943 => (estreatref14_Put.j0 k l0 a1 a2 (!t943)))) else (if a1 = 2 then (if a2 = (-1) then (estreatref14_Put.j0 k l0 a1 a2 false) else ((estreatref14_Of.f a2 a1).bind fun t944 => (estreatref14_Put.j0 k l0 a1 a2 (!t944)))) else (estreatref14_Put.j0 k l0 a1 a2 true))) = some (r1, r2) := h
 clear h
 have HC4 := Aside0.mk H
 clear H
 go_enter Tryz.func7, Tryz.ntmps7
 go_upto_region 1 with (fail)
 go_cut [24] (fun v24 wc => ∃ (kq : Nat) (x24_3 : Bool), v24 = .bool x24_3 ∧ Aside0 (estreatref14_Put.j0 kq l0 a1 a2 x24_3 = some (r1, r2)) ∧ Aside0 (kq ≤ k) ∧ Aside0 (Below w.heap.size w wc))
 case first =>
  have H := HC4.out
  clear HC4
  by_cases c5 : a1 = 1
  ·rw [if_pos c5] at H
   have c5b0 : (a1 == 1) = true := beq_iff_eq.mpr c5
   have c5b1 : (a1 != 1) = false := bne_eq_false_iff_eq.mpr c5
   clear c5
   (first | rw [c5b0] | (simp only [i64_w, i32_w]; rw [c5b0]) | skip)
   by_cases c6 : a2 = (-1)
   ·rw [if_pos c6] at H
    have c6b0 : (a2 == (-1)) = true := beq_iff_eq.mpr c6
    have c6b1 : (a2 != (-1)) = false := bne_eq_false_iff_eq.mpr c6
    clear c6
    have H' := Aside0.mk H
    clear H
    go_wp2
    go_meet
    case rel => exact ⟨_, (false), EB, H', ⟨by first | omega | exact Nat.le_refl _⟩, ⟨BU HB.out⟩⟩
   ·rw [if_neg c6] at H
    have c6b0 : (a2 == (-1)) = false := beq_eq_false_iff_ne.mpr c6
    have c6b1 : (a2 != (-1)) = true := bne_iff_ne.mpr c6
    replace H := Option.bind_eq_some_iff.mp H
    obtain ⟨t943, A70, H⟩ := H
    replace H : (estreatref14_Put.j0 k l0 a1 a2 (!t943)) = some (r1, r2) := H
    have A7 := Aside0.mk A70
    clear A70
    have H' := Aside0.mk H
    clear H
    go_wp2_with (first | (go_at_call 15; (with_reducible refine (estreatref14_Of.calls a2 a1 t943 _ A7.out).mono ?_); rintro e w' ⟨rfl, ⟨nd, rfl⟩⟩))
    go_meet
    case rel => exact ⟨_, (!t943), EB, H', ⟨by first | omega | exact Nat.le_refl _⟩, ⟨BU HB.out⟩⟩
  ·rw [if_neg c5] at H
   have c5b0 : (a1 == 1) = false := beq_eq_false_iff_ne.mpr c5
   have c5b1 : (a1 != 1) = true := bne_iff_ne.mpr c5
   (first | rw [c5b0] | (simp only [i64_w, i32_w]; rw [c5b0]) | skip)
   by_cases c8 : a1 = 2
   ·rw [if_pos c8] at H
    have c8b0 : (a1 == 2) = true := beq_iff_eq.mpr c8
    have c8b1 : (a1 != 2) = false := bne_eq_false_iff_eq.mpr c8
    clear c8
    by_cases c9 : a2 = (-1)
    ·rw [if_pos c9] at H
     have c9b0 : (a2 == (-1)) = true := beq_iff_eq.mpr c9
     have c9b1 : (a2 != (-1)) = false := bne_eq_false_iff_eq.mpr c9
     clear c9
     have H' := Aside0.mk H
     clear H
     go_wp2
     go_meet
     case rel => exact ⟨_, (false), EB, H', ⟨by first | omega | exact Nat.le_refl _⟩, ⟨BU HB.out⟩⟩
    ·rw [if_neg c9] at H
     have c9b0 : (a2 == (-1)) = false := beq_eq_false_iff_ne.mpr c9
     have c9b1 : (a2 != (-1)) = true := bne_iff_ne.mpr c9
     replace H := Option.bind_eq_some_iff.mp H
     obtain ⟨t944, A100, H⟩ := H
     replace H : (estreatref14_Put.j0 k l0 a1 a2 (!t944)) = some (r1, r2) := H
     have A10 := Aside0.mk A100
     clear A100
     have H' := Aside0.mk H
     clear H
     go_wp2_with (first | (go_at_call 15; (with_reducible refine (estreatref14_Of.calls a2 a1 t944 _ A10.out).mono ?_); rintro e w' ⟨rfl, ⟨nd, rfl⟩⟩))
     go_meet
     case rel => exact ⟨_, (!t944), EB, H', ⟨by first | omega | exact Nat.le_refl _⟩, ⟨BU HB.out⟩⟩
   ·rw [if_neg c8] at H
    have c8b0 : (a1 == 2) = false := beq_eq_false_iff_ne.mpr c8
    have c8b1 : (a1 != 2) = true := bne_iff_ne.mpr c8
    have H' := Aside0.mk H
    clear H
    go_wp2
    go_meet
    case rel => exact ⟨_, (true), EB, H', ⟨by first | omega | exact Nat.le_refl _⟩, ⟨BU HB.out⟩⟩
 case rest =>
  clear HC4
  try clear p2
  try clear c5
  try clear c5b0
  try clear c5b1
  try clear c6
  try clear c6b0
  try clear c6b1
  try clear c7
  try clear c8
  try clear c8b0
  try clear c8b1
  try clear c9
  try clear c9b0
  try clear c9b1
  obtain ⟨kq, x24_3, rfl, HA, HJ3, HB⟩ := hcut
  cases kq with
  | zero => exact absurd HA.out (by simp [estreatref14_Put.j0])
  | succ kj3 =>
   have H := HA.out
   clear HA
   simp only [estreatref14_Put.j0] at H
   by_cases c11 : x24_3 = true
   ·subst c11
    have H1 : (some (([] : List Int), 1)) = some (r1, r2) := by rw [if_pos rfl] at H; exact H
    clear H
    have H := H1
    clear H1
    simp only [Option.some.injEq, Prod.mk.injEq] at H
    obtain ⟨rfl, rfl⟩ := H
    go_wp2
    go_ret2
    exact ⟨_, by first | rfl | (simp [errW_none, errW_some] <;> rfl) | (simp [*, errW_none, errW_some] <;> rfl), by first | exact Kd.R_nil _ _ _ _ _ | exact Kd.N_nil _ _ _ _ _ | exact Kd.V_nil _ _ _ _ _ | exact Kd.Q_nil _ _ _ _ _ | exact Kd.S_nil _ _ _ _ _, BU HB.out⟩
   ·replace c11 := Bool.eq_false_iff.mpr c11
    subst c11
    have H1 : ((estreatref14_Check.f kj3 l0 a1).bind fun t945 => (if t945 = 0 then (if a2 = (-1) then ((estreatref14_Best.f kj3 l0 a1).bind fun t946 => ((estreatref14_lay.f kj3 l0 t946).bind fun t947 => (some (t947, 0)))) else ((estreatref14_lay.f kj3 l0 a2).bind fun t950 => (some (t950, 0)))) else (some (([] : List Int), t945)))) = some (r1, r2) := by rw [if_neg (show ¬ (false = true) by decide)] at H; exact H
    clear H
    have H := H1
    clear H1
    replace H := Option.bind_eq_some_iff.mp H
    obtain ⟨t945, A120, H⟩ := H
    replace H : (if t945 = 0 then (if a2 = (-1) then ((estreatref14_Best.f kj3 l0 a1).bind fun t946 => ((estreatref14_lay.f kj3 l0 t946).bind fun t947 => (some (t947, 0)))) else ((estreatref14_lay.f kj3 l0 a2).bind fun t950 => (some (t950, 0)))) else (some (([] : List Int), t945))) = some (r1, r2) := H
    have A12 := Aside0.mk A120
    clear A120
    by_cases c13 : t945 = 0
    ·rw [if_pos c13] at H
     have c13b0 : (t945 == 0) = true := beq_iff_eq.mpr c13
     have c13b1 : (t945 != 0) = false := bne_eq_false_iff_eq.mpr c13
     clear c13
     by_cases c14 : a2 = (-1)
     ·rw [if_pos c14] at H
      have c14b0 : (a2 == (-1)) = true := beq_iff_eq.mpr c14
      have c14b1 : (a2 != (-1)) = false := bne_eq_false_iff_eq.mpr c14
      clear c14
      replace H := Option.bind_eq_some_iff.mp H
      obtain ⟨t946, A150, H⟩ := H
      replace H : ((estreatref14_lay.f kj3 l0 t946).bind fun t947 => (some (t947, 0))) = some (r1, r2) := H
      have A15 := Aside0.mk A150
      clear A150
      replace H := Option.bind_eq_some_iff.mp H
      obtain ⟨t947, A160, H⟩ := H
      replace H : (some (t947, 0)) = some (r1, r2) := H
      have A16 := Aside0.mk A160
      clear A160
      simp only [Option.some.injEq, Prod.mk.injEq] at H
      obtain ⟨rfl, rfl⟩ := H
      go_wp2_with (first | ((with_reducible refine gate_callee (f := 16) rfl ?_); refine goesL_ (some 27) rfl rfl Tryz.func16 (by kernel_rfl) rfl #[.slice A0 l0.length c0, .int .i64 a1] rfl EA ?_; (with_reducible refine (estreatref14_Check.calls kj3 _ _ l0 a1 t945 _ ?side1 ?side2 A12.out).mono ?_); (case side1 => exact CU ((Kd.C_below HR0.out HB.out))); (case side2 => exact HC0.out); rintro e w17 ⟨rfl, hb⟩; refine ⟨_, rfl, ?_⟩; have n0_ := Aside0.mk (below_step (BU HB.out) hb); clear HB; have HB := n0_; clear n0_; (try clear hb); (try clear hb2); (try clear hk); (try clear hi)) | ((with_reducible refine gate_callee (f := 10) rfl ?_); refine goesL_ (some 35) rfl rfl Tryz.func10 (by kernel_rfl) rfl #[.slice A0 l0.length c0, .int .i64 a1] rfl EA ?_; (with_reducible refine (estreatref14_Best.calls kj3 _ _ l0 a1 t946 _ ?side1 ?side2 A15.out).mono ?_); (case side1 => exact CU ((Kd.C_below HR0.out HB.out))); (case side2 => exact HC0.out); rintro e w18 ⟨rfl, hb⟩; refine ⟨_, rfl, ?_⟩; have n0_ := Aside0.mk (below_step (BU HB.out) hb); clear HB; have HB := n0_; clear n0_; (try clear hb); (try clear hb2); (try clear hk); (try clear hi)) | ((with_reducible refine gate_callee (f := 17) rfl ?_); refine goesL_ (some 38) rfl rfl Tryz.func17 (by kernel_rfl) rfl #[.slice A0 l0.length c0, .int .i64 t946] rfl EA ?_; (with_reducible refine (estreatref14_lay.calls kj3 _ _ l0 t946 t947 _ ?side1 ?side2 A16.out).mono ?_); (case side1 => exact CU ((Kd.C_below HR0.out HB.out))); (case side2 => exact HC0.out); rintro e w19 ⟨v948, rfl, ho0, hb⟩; refine ⟨_, rfl, ?_⟩; have n0_ := Aside0.mk (Kd.R_lower ho0 (below_size (BU HB.out))); have n1_ := Aside0.mk (below_step (BU HB.out) hb); clear HB; have HO949 := n0_; have HB := n1_; clear n0_ n1_; (try clear hb); (try clear hb2); (try clear hk); (try clear hi); (try clear ho0)))
      go_ret2
      exact ⟨_, by first | rfl | (simp [errW_none, errW_some] <;> rfl) | (simp [*, errW_none, errW_some] <;> rfl), RU HO949.out, BU HB.out⟩
     ·rw [if_neg c14] at H
      have c14b0 : (a2 == (-1)) = false := beq_eq_false_iff_ne.mpr c14
      have c14b1 : (a2 != (-1)) = true := bne_iff_ne.mpr c14
      replace H := Option.bind_eq_some_iff.mp H
      obtain ⟨t950, A200, H⟩ := H
      replace H : (some (t950, 0)) = some (r1, r2) := H
      have A20 := Aside0.mk A200
      clear A200
      simp only [Option.some.injEq, Prod.mk.injEq] at H
      obtain ⟨rfl, rfl⟩ := H
      go_wp2_with (first | ((with_reducible refine gate_callee (f := 16) rfl ?_); refine goesL_ (some 27) rfl rfl Tryz.func16 (by kernel_rfl) rfl #[.slice A0 l0.length c0, .int .i64 a1] rfl EA ?_; (with_reducible refine (estreatref14_Check.calls kj3 _ _ l0 a1 t945 _ ?side1 ?side2 A12.out).mono ?_); (case side1 => exact CU ((Kd.C_below HR0.out HB.out))); (case side2 => exact HC0.out); rintro e w21 ⟨rfl, hb⟩; refine ⟨_, rfl, ?_⟩; have n0_ := Aside0.mk (below_step (BU HB.out) hb); clear HB; have HB := n0_; clear n0_; (try clear hb); (try clear hb2); (try clear hk); (try clear hi)) | ((with_reducible refine gate_callee (f := 17) rfl ?_); refine goesL_ (some 38) rfl rfl Tryz.func17 (by kernel_rfl) rfl #[.slice A0 l0.length c0, .int .i64 a2] rfl EA ?_; (with_reducible refine (estreatref14_lay.calls kj3 _ _ l0 a2 t950 _ ?side1 ?side2 A20.out).mono ?_); (case side1 => exact CU ((Kd.C_below HR0.out HB.out))); (case side2 => exact HC0.out); rintro e w22 ⟨v951, rfl, ho0, hb⟩; refine ⟨_, rfl, ?_⟩; have n0_ := Aside0.mk (Kd.R_lower ho0 (below_size (BU HB.out))); have n1_ := Aside0.mk (below_step (BU HB.out) hb); clear HB; have HO952 := n0_; have HB := n1_; clear n0_ n1_; (try clear hb); (try clear hb2); (try clear hk); (try clear hi); (try clear ho0)))
      go_ret2
      exact ⟨_, by first | rfl | (simp [errW_none, errW_some] <;> rfl) | (simp [*, errW_none, errW_some] <;> rfl), RU HO952.out, BU HB.out⟩
    ·rw [if_neg c13] at H
     have c13b0 : (t945 == 0) = false := beq_eq_false_iff_ne.mpr c13
     have c13b1 : (t945 != 0) = true := bne_iff_ne.mpr c13
     simp only [Option.some.injEq, Prod.mk.injEq] at H
     obtain ⟨rfl, rfl⟩ := H
     go_wp2_with (first | ((with_reducible refine gate_callee (f := 16) rfl ?_); refine goesL_ (some 27) rfl rfl Tryz.func16 (by kernel_rfl) rfl #[.slice A0 l0.length c0, .int .i64 a1] rfl EA ?_; (with_reducible refine (estreatref14_Check.calls kj3 _ _ l0 a1 t945 _ ?side1 ?side2 A12.out).mono ?_); (case side1 => exact CU ((Kd.C_below HR0.out HB.out))); (case side2 => exact HC0.out); rintro e w23 ⟨rfl, hb⟩; refine ⟨_, rfl, ?_⟩; have n0_ := Aside0.mk (below_step (BU HB.out) hb); clear HB; have HB := n0_; clear n0_; (try clear hb); (try clear hb2); (try clear hk); (try clear hi)))
     go_ret2
     exact ⟨_, by first | rfl | (simp [errW_none, errW_some] <;> rfl) | (simp [*, errW_none, errW_some] <;> rfl), by first | exact Kd.R_nil _ _ _ _ _ | exact Kd.N_nil _ _ _ _ _ | exact Kd.V_nil _ _ _ _ _ | exact Kd.Q_nil _ _ _ _ _ | exact Kd.S_nil _ _ _ _ _, BU HB.out⟩

end Go.Proofs.YtefcchpjbojdkaaGreatDoor.PChunkPuts
namespace Go.Proofs.YtefcchpjbojdkaaGreatDoor.PChunkPuts
open Go.RowKit Go.Proofs.YtefcchpjbojdkaaGreatDoorW.PrintWords Go.Proofs.YtefcchpjbojdkaaGreatDoorW.PrintLast Go.Proofs.YtefcchpjbojdkaaGreatDoorW.PrintMore
attribute [local go_sem] max2_int min2_int max_two min_two max_three min_three max_four min_four   -- for this text's walks alone
set_option linter.unusedVariables false
set_option linter.unusedSimpArgs false

/-! ### estreatlaw14_awake: function 5 -/
def estreatlaw14_awake.f (k : Nat)  : Option (Bool) := (chunk_Put.f k (([(⟨0, 0, (⟨#[]⟩ : ByteArray)⟩ : S34), (⟨1, 3, (⟨#[]⟩ : ByteArray)⟩ : S34)] : List (S34))) 1 0).bind fun bt607 => ((estreatref01_Same.f k bt607.1 (([1, 1, 0, 6] : List Int))).bind fun t614 => (if t614 = true then (some (bt607.2 == 0)) else (some false)))
set_option maxHeartbeats 8000000 in
set_option maxRecDepth 100000 in
theorem estreatlaw14_awake.calls (k : Nat)  (r : Bool) (w : World) (h : estreatlaw14_awake.f k  = some r) :
  Calls Tryz.prog 5 #[] w fun e w' => e = .returned (.bool r) ∧ Below w.heap.size w w' := by
 have hu34 := Tryz.underlying34
 have HB := Aside0.mk (Below.refl w.heap.size w)
 have H : ((chunk_Put.f k (([(⟨0, 0, (⟨#[]⟩ : ByteArray)⟩ : S34), (⟨1, 3, (⟨#[]⟩ : ByteArray)⟩ : S34)] : List (S34))) 1 0).bind fun bt607 => ((estreatref01_Same.f k bt607.1 (([1, 1, 0, 6] : List Int))).bind fun t614 => (if t614 = true then (some (bt607.2 == 0)) else (some false)))) = some r := h
 clear h
 obtain ⟨y604, hy604⟩ : ∃ y_ : List (S34), y_ = (([(⟨0, 0, (⟨#[]⟩ : ByteArray)⟩ : S34), (⟨1, 3, (⟨#[]⟩ : ByteArray)⟩ : S34)] : List (S34))) := ⟨_, rfl⟩
 replace H : ((chunk_Put.f k y604 1 0).bind fun bt607 => ((estreatref01_Same.f k bt607.1 (([1, 1, 0, 6] : List Int))).bind fun t614 => (if t614 = true then (some (bt607.2 == 0)) else (some false)))) = some r := by first | (rw [hy604]; with_reducible exact H) | (have H2_ := (Option.bind_some _ _).symm.trans H; rw [hy604]; with_reducible exact H2_) | (have H2_ := (Option.bind_some _ _).symm.trans H; with_reducible exact H2_) | with_reducible exact H | (rw [hy604]; exact H) | exact H
 have Ny604 := Aside0.mk hy604
 clear hy604
 replace H := Option.bind_eq_some_iff.mp H
 obtain ⟨⟨t607, t608⟩, A10, H⟩ := H
 replace H : ((estreatref01_Same.f k t607 (([1, 1, 0, 6] : List Int))).bind fun t614 => (if t614 = true then (some (t608 == 0)) else (some false))) = some r := H
 have A1 := Aside0.mk A10
 clear A10
 obtain ⟨y611, hy611⟩ : ∃ y_ : List Int, y_ = (([1, 1, 0, 6] : List Int)) := ⟨_, rfl⟩
 replace H : ((estreatref01_Same.f k t607 y611).bind fun t614 => (if t614 = true then (some (t608 == 0)) else (some false))) = some r := by first | (rw [hy611]; with_reducible exact H) | (have H2_ := (Option.bind_some _ _).symm.trans H; rw [hy611]; with_reducible exact H2_) | (have H2_ := (Option.bind_some _ _).symm.trans H; with_reducible exact H2_) | with_reducible exact H | (rw [hy611]; exact H) | exact H
 have Ny611 := Aside0.mk hy611
 clear hy611
 replace H := Option.bind_eq_some_iff.mp H
 obtain ⟨t614, A20, H⟩ := H
 replace H : (if t614 = true then (some (t608 == 0)) else (some false)) = some r := H
 have A2 := Aside0.mk A20
 clear A20
 by_cases c3 : t614 = true
 ·subst c3
  have H1 : (some (t608 == 0)) = some r := by rw [if_pos rfl] at H; exact H
  clear H
  have H := H1
  clear H1
  obtain rfl := Option.some.inj H
  go_enter Tryz.func5, Tryz.ntmps5
  go_wp2_with (first | ((with_reducible refine gate_dst (N := 6) rfl ?_); refine Kd.R_lit k34 _ 34 ?hg (N := 6) ?hd (xs := ([(⟨0, 0, (⟨#[]⟩ : ByteArray)⟩ : S34), (⟨1, 3, (⟨#[]⟩ : ByteArray)⟩ : S34)] : List (S34))) (inner := [.int .i64 0, .int .i64 0, .string (⟨#[]⟩ : ByteArray), .int .i64 1, .int .i64 3, .string (⟨#[]⟩ : ByteArray)]) (ok := fun _ => True) (okp := fun _ => True) ?hr ?hp (fun _ hk => hk) trivial (Below.refl _ _) (Nat.le_refl _) (by simp) ?_; (case hd => rfl); (case hg => rfl); (case hr => first | (go_simp; done) | (go_simp; rfl)); (case hp => exact (Reps.c3 (show Kd.M k34 _ _ _ (⟨0, 0, (⟨#[]⟩ : ByteArray)⟩ : S34) [.int .i64 0, .int .i64 0, .string (⟨#[]⟩ : ByteArray)] from (k34_mkM _ _ _ (⟨0, 0, (⟨#[]⟩ : ByteArray)⟩ : S34) )) (Reps.c3 (show Kd.M k34 _ _ _ (⟨1, 3, (⟨#[]⟩ : ByteArray)⟩ : S34) [.int .i64 1, .int .i64 3, .string (⟨#[]⟩ : ByteArray)] from (k34_mkM _ _ _ (⟨1, 3, (⟨#[]⟩ : ByteArray)⟩ : S34) )) (Reps.none _ _)))); intro v605 w4 ho5 hb hg_ hnew_; clear hg_ hnew_; (first | rw [← Ny604.out] at ho5 | (simp only [Int.reduceToNat] at ho5; rw [← Ny604.out] at ho5)); have n0_ := Aside0.mk (Kd.R_lower ho5 (below_size (BU HB.out))); have n1_ := Aside0.mk (below_step (BU HB.out) hb); clear HB; have HO606 := n0_; have HB := n1_; clear n0_ n1_; clear hb ho5; obtain ⟨Ao6, co6, eo6⟩ := Kd.R_slice HO606.out; subst eo6) | ((with_reducible refine gate_callee (f := 6) rfl ?_); refine goesL_ (some 7) rfl rfl Tryz.func6 (by kernel_rfl) rfl #[.slice Ao6 y604.length co6, .int .i64 1, .int .i64 0] rfl EA ?_; (with_reducible refine (chunk_Put.calls k _ _ y604 1 0 t607 t608 _ ?side1 ?side2 A1.out).mono ?_); (case side1 => exact CU ((Kd.R_reads' HO606.out).2.2)); (case side2 => exact (Kd.R_reads' HO606.out).2.1); rintro e w7 ⟨v609, rfl, ho0, hb⟩; refine ⟨_, rfl, ?_⟩; have n0_ := Aside0.mk (Kd.R_below (RU HO606.out) hb); have n1_ := Aside0.mk (Kd.R_lower ho0 (below_size (BU HB.out))); have n2_ := Aside0.mk (below_step (BU HB.out) hb); clear HO606 HB; have HO606 := n0_; have HO610 := n1_; have HB := n2_; clear n0_ n1_ n2_; (try clear hb); (try clear hb2); (try clear hk); (try clear hi); (try clear ho0)) | ((with_reducible refine gate_dst (N := 11) rfl ?_); refine Kd.R_lit (Kd.int .u8) _ 5 ?hg (N := 11) ?hd (xs := ([1, 1, 0, 6] : List Int)) (inner := [.int .u8 1, .int .u8 1, .int .u8 0, .int .u8 6]) (ok := fun _ => True) (okp := fun _ => True) ?hr ?hp (fun _ hk => hk) trivial (Below.refl _ _) (Nat.le_refl _) (by simp) ?_; (case hd => rfl); (case hg => rfl); (case hr => first | (go_simp; done) | (go_simp; rfl)); (case hp => exact (Reps.one (show Kd.M (Kd.int .u8) _ _ _ 1 [.int .u8 1] from rfl) (Reps.one (show Kd.M (Kd.int .u8) _ _ _ 1 [.int .u8 1] from rfl) (Reps.one (show Kd.M (Kd.int .u8) _ _ _ 0 [.int .u8 0] from rfl) (Reps.one (show Kd.M (Kd.int .u8) _ _ _ 6 [.int .u8 6] from rfl) (Reps.none _ _)))))); intro v612 w8 ho9 hb hg_ hnew_; clear hg_ hnew_; (first | rw [← Ny611.out] at ho9 | (simp only [Int.reduceToNat] at ho9; rw [← Ny611.out] at ho9)); have n0_ := Aside0.mk (Kd.R_below (RU HO606.out) hb); have n1_ := Aside0.mk (Kd.R_elder' (RU HO610.out) (Kd.R_base ho9) hb); have n2_ := Aside0.mk (Kd.R_lower (Kd.R_new' ho9 (Kd.R_lt (RU HO610.out))) (below_size (BU HB.out))); have n3_ := Aside0.mk (below_step (BU HB.out) hb); clear HO606 HO610 HB; have HO606 := n0_; have HO610 := n1_; have HO613 := n2_; have HB := n3_; clear n0_ n1_ n2_ n3_; clear hb ho9; obtain ⟨Ao10, co10, eo10⟩ := Kd.R_slice HO610.out; subst eo10; obtain ⟨Ao11, co11, eo11⟩ := Kd.R_slice HO613.out; subst eo11) | ((with_reducible refine gate_callee (f := 8) rfl ?_); refine goesL_ (some 12) rfl rfl Tryz.func8 (by kernel_rfl) rfl #[.slice Ao10 t607.length co10, .slice Ao11 y611.length co11] rfl EA ?_; (with_reducible refine (estreatref01_Same.calls k _ _ t607 _ _ y611 true _ ?side1 ?side2 ?side3 ?side4 A2.out).mono ?_); (case side1 => exact CU ((Kd.R_reads' HO610.out).2.2)); (case side2 => exact (Kd.R_reads' HO610.out).2.1); (case side3 => exact CU ((Kd.R_reads' HO613.out).2.2)); (case side4 => exact (Kd.R_reads' HO613.out).2.1); rintro e w' ⟨rfl, ⟨nd, rfl⟩⟩; refine ⟨_, rfl, ?_⟩))
  go_ret
  exact ⟨by first | rfl | (simp [errW_none, errW_some] <;> rfl) | (simp [*, errW_none, errW_some] <;> rfl), BU HB.out⟩
 ·replace c3 := Bool.eq_false_iff.mpr c3
  subst c3
  have H1 : (some false) = some r := by rw [if_neg (show ¬ (false = true) by decide)] at H; exact H
  clear H
  have H := H1
  clear H1
  obtain rfl := Option.some.inj H
  go_enter Tryz.func5, Tryz.ntmps5
  go_wp2_with (first | ((with_reducible refine gate_dst (N := 6) rfl ?_); refine Kd.R_lit k34 _ 34 ?hg (N := 6) ?hd (xs := ([(⟨0, 0, (⟨#[]⟩ : ByteArray)⟩ : S34), (⟨1, 3, (⟨#[]⟩ : ByteArray)⟩ : S34)] : List (S34))) (inner := [.int .i64 0, .int .i64 0, .string (⟨#[]⟩ : ByteArray), .int .i64 1, .int .i64 3, .string (⟨#[]⟩ : ByteArray)]) (ok := fun _ => True) (okp := fun _ => True) ?hr ?hp (fun _ hk => hk) trivial (Below.refl _ _) (Nat.le_refl _) (by simp) ?_; (case hd => rfl); (case hg => rfl); (case hr => first | (go_simp; done) | (go_simp; rfl)); (case hp => exact (Reps.c3 (show Kd.M k34 _ _ _ (⟨0, 0, (⟨#[]⟩ : ByteArray)⟩ : S34) [.int .i64 0, .int .i64 0, .string (⟨#[]⟩ : ByteArray)] from (k34_mkM _ _ _ (⟨0, 0, (⟨#[]⟩ : ByteArray)⟩ : S34) )) (Reps.c3 (show Kd.M k34 _ _ _ (⟨1, 3, (⟨#[]⟩ : ByteArray)⟩ : S34) [.int .i64 1, .int .i64 3, .string (⟨#[]⟩ : ByteArray)] from (k34_mkM _ _ _ (⟨1, 3, (⟨#[]⟩ : ByteArray)⟩ : S34) )) (Reps.none _ _)))); intro v605 w12 ho13 hb hg_ hnew_; clear hg_ hnew_; (first | rw [← Ny604.out] at ho13 | (simp only [Int.reduceToNat] at ho13; rw [← Ny604.out] at ho13)); have n0_ := Aside0.mk (Kd.R_lower ho13 (below_size (BU HB.out))); have n1_ := Aside0.mk (below_step (BU HB.out) hb); clear HB; have HO606 := n0_; have HB := n1_; clear n0_ n1_; clear hb ho13; obtain ⟨Ao14, co14, eo14⟩ := Kd.R_slice HO606.out; subst eo14) | ((with_reducible refine gate_callee (f := 6) rfl ?_); refine goesL_ (some 7) rfl rfl Tryz.func6 (by kernel_rfl) rfl #[.slice Ao14 y604.length co14, .int .i64 1, .int .i64 0] rfl EA ?_; (with_reducible refine (chunk_Put.calls k _ _ y604 1 0 t607 t608 _ ?side1 ?side2 A1.out).mono ?_); (case side1 => exact CU ((Kd.R_reads' HO606.out).2.2)); (case side2 => exact (Kd.R_reads' HO606.out).2.1); rintro e w15 ⟨v609, rfl, ho0, hb⟩; refine ⟨_, rfl, ?_⟩; have n0_ := Aside0.mk (Kd.R_below (RU HO606.out) hb); have n1_ := Aside0.mk (Kd.R_lower ho0 (below_size (BU HB.out))); have n2_ := Aside0.mk (below_step (BU HB.out) hb); clear HO606 HB; have HO606 := n0_; have HO610 := n1_; have HB := n2_; clear n0_ n1_ n2_; (try clear hb); (try clear hb2); (try clear hk); (try clear hi); (try clear ho0)) | ((with_reducible refine gate_dst (N := 11) rfl ?_); refine Kd.R_lit (Kd.int .u8) _ 5 ?hg (N := 11) ?hd (xs := ([1, 1, 0, 6] : List Int)) (inner := [.int .u8 1, .int .u8 1, .int .u8 0, .int .u8 6]) (ok := fun _ => True) (okp := fun _ => True) ?hr ?hp (fun _ hk => hk) trivial (Below.refl _ _) (Nat.le_refl _) (by simp) ?_; (case hd => rfl); (case hg => rfl); (case hr => first | (go_simp; done) | (go_simp; rfl)); (case hp => exact (Reps.one (show Kd.M (Kd.int .u8) _ _ _ 1 [.int .u8 1] from rfl) (Reps.one (show Kd.M (Kd.int .u8) _ _ _ 1 [.int .u8 1] from rfl) (Reps.one (show Kd.M (Kd.int .u8) _ _ _ 0 [.int .u8 0] from rfl) (Reps.one (show Kd.M (Kd.int .u8) _ _ _ 6 [.int .u8 6] from rfl) (Reps.none _ _)))))); intro v612 w16 ho17 hb hg_ hnew_; clear hg_ hnew_; (first | rw [← Ny611.out] at ho17 | (simp only [Int.reduceToNat] at ho17; rw [← Ny611.out] at ho17)); have n0_ := Aside0.mk (Kd.R_below (RU HO606.out) hb); have n1_ := Aside0.mk (Kd.R_elder' (RU HO610.out) (Kd.R_base ho17) hb); have n2_ := Aside0.mk (Kd.R_lower (Kd.R_new' ho17 (Kd.R_lt (RU HO610.out))) (below_size (BU HB.out))); have n3_ := Aside0.mk (below_step (BU HB.out) hb); clear HO606 HO610 HB; have HO606 := n0_; have HO610 := n1_; have HO613 := n2_; have HB := n3_; clear n0_ n1_ n2_ n3_; clear hb ho17; obtain ⟨Ao18, co18, eo18⟩ := Kd.R_slice HO610.out; subst eo18; obtain ⟨Ao19, co19, eo19⟩ := Kd.R_slice HO613.out; subst eo19) | ((with_reducible refine gate_callee (f := 8) rfl ?_); refine goesL_ (some 12) rfl rfl Tryz.func8 (by kernel_rfl) rfl #[.slice Ao18 t607.length co18, .slice Ao19 y611.length co19] rfl EA ?_; (with_reducible refine (estreatref01_Same.calls k _ _ t607 _ _ y611 false _ ?side1 ?side2 ?side3 ?side4 A2.out).mono ?_); (case side1 => exact CU ((Kd.R_reads' HO610.out).2.2)); (case side2 => exact (Kd.R_reads' HO610.out).2.1); (case side3 => exact CU ((Kd.R_reads' HO613.out).2.2)); (case side4 => exact (Kd.R_reads' HO613.out).2.1); rintro e w' ⟨rfl, ⟨nd, rfl⟩⟩; refine ⟨_, rfl, ?_⟩))
  go_ret
  exact ⟨by first | rfl | (simp [errW_none, errW_some] <;> rfl) | (simp [*, errW_none, errW_some] <;> rfl), BU HB.out⟩

/-! ### estreatlaw14_ChunkPuts: function 3 -/
def estreatlaw14_ChunkPuts.f (k : Nat) (l0 : List (S34)) (a1 : Int) (a2 : Int) : Option (Bool) := (estreatref14_Great.f k l0 100 100).bind fun t953 => (if t953 = true then ((estreatlaw14_awake.f k).bind fun t954 => (some t954)) else ((chunk_Put.f k l0 a1 a2).bind fun bt955 => ((estreatref14_Put.f k l0 a1 a2).bind fun bt959 => ((estreatref01_Same.f k bt955.1 bt959.1).bind fun t963 => (if t963 = true then (if bt955.2 = bt959.2 then ((chunk_Best.f k l0 a1).bind fun t964 => ((estreatref14_Best.f k l0 a1).bind fun t965 => (if t964 = t965 then ((estreatlaw14_awake.f k).bind fun t966 => (some t966)) else (some false)))) else (some false)) else (some false))))))
set_option maxHeartbeats 8000000 in
set_option maxRecDepth 100000 in
theorem estreatlaw14_ChunkPuts.calls (k : Nat) (A0 : Option Addr) (c0 : Nat) (l0 : List (S34)) (a1 : Int) (a2 : Int) (r : Bool) (w : World) (hr0 : Kd.C k34 w A0 l0.length l0) (hc0 : l0.length ≤ c0) (h : estreatlaw14_ChunkPuts.f k l0 a1 a2 = some r) (hr : r = true) :
  Calls Tryz.prog 3 #[.slice A0 l0.length c0, .int .i64 a1, .int .i64 a2] w fun e w' => e = .returned (.bool r) ∧ Below w.heap.size w w' := by
 have HR0 := Aside0.mk hr0
 have HC0 := Aside0.mk hc0
 clear hr0 hc0
 have HB := Aside0.mk (Below.refl w.heap.size w)
 have H : ((estreatref14_Great.f k l0 100 100).bind fun t953 => (if t953 = true then ((estreatlaw14_awake.f k).bind fun t954 => (some t954)) else ((chunk_Put.f k l0 a1 a2).bind fun bt955 => ((estreatref14_Put.f k l0 a1 a2).bind fun bt959 => ((estreatref01_Same.f k bt955.1 bt959.1).bind fun t963 => (if t963 = true then (if bt955.2 = bt959.2 then ((chunk_Best.f k l0 a1).bind fun t964 => ((estreatref14_Best.f k l0 a1).bind fun t965 => (if t964 = t965 then ((estreatlaw14_awake.f k).bind fun t966 => (some t966)) else (some false)))) else (some false)) else (some false))))))) = some r := h
 clear h
 replace H := Option.bind_eq_some_iff.mp H
 obtain ⟨t953, A40, H⟩ := H
 replace H : (if t953 = true then ((estreatlaw14_awake.f k).bind fun t954 => (some t954)) else ((chunk_Put.f k l0 a1 a2).bind fun bt955 => ((estreatref14_Put.f k l0 a1 a2).bind fun bt959 => ((estreatref01_Same.f k bt955.1 bt959.1).bind fun t963 => (if t963 = true then (if bt955.2 = bt959.2 then ((chunk_Best.f k l0 a1).bind fun t964 => ((estreatref14_Best.f k l0 a1).bind fun t965 => (if t964 = t965 then ((estreatlaw14_awake.f k).bind fun t966 => (some t966)) else (some false)))) else (some false)) else (some false)))))) = some r := H
 have A4 := Aside0.mk A40
 clear A40
 by_cases c5 : t953 = true
 ·subst c5
  have H1 : ((estreatlaw14_awake.f k).bind fun t954 => (some t954)) = some r := by rw [if_pos rfl] at H; exact H
  clear H
  have H := H1
  clear H1
  replace H := Option.bind_eq_some_iff.mp H
  obtain ⟨t954, A60, H⟩ := H
  replace H : (some t954) = some r := H
  have A6 := Aside0.mk A60
  clear A60
  obtain rfl := Option.some.inj H
  go_enter Tryz.func3, Tryz.ntmps3
  go_wp2_with (first | ((with_reducible refine gate_callee (f := 4) rfl ?_); refine goesL_ (some 12) rfl rfl Tryz.func4 (by kernel_rfl) rfl #[.slice A0 l0.length c0, .int .i64 100, .int .i64 100] rfl EA ?_; (with_reducible refine (estreatref14_Great.calls k _ _ l0 100 100 true _ ?side1 ?side2 A4.out).mono ?_); (case side1 => exact CU HR0.out); (case side2 => exact HC0.out); rintro e w' ⟨rfl, ⟨nd, rfl⟩⟩; refine ⟨_, rfl, ?_⟩) | ((with_reducible refine gate_callee (f := 5) rfl ?_); refine goesL_ (some 13) rfl rfl Tryz.func5 (by kernel_rfl) rfl #[] rfl EA ?_; (with_reducible refine (estreatlaw14_awake.calls k  t954 _ A6.out).mono ?_); rintro e w7 ⟨rfl, hb⟩; refine ⟨_, rfl, ?_⟩; have n0_ := Aside0.mk (below_step (BU HB.out) hb); clear HB; have HB := n0_; clear n0_; (try clear hb); (try clear hb2); (try clear hk); (try clear hi)))
  go_ret
  exact ⟨by first | rfl | (simp [errW_none, errW_some] <;> rfl) | (simp [*, errW_none, errW_some] <;> rfl), BU HB.out⟩
 ·replace c5 := Bool.eq_false_iff.mpr c5
  subst c5
  have H1 : ((chunk_Put.f k l0 a1 a2).bind fun bt955 => ((estreatref14_Put.f k l0 a1 a2).bind fun bt959 => ((estreatref01_Same.f k bt955.1 bt959.1).bind fun t963 => (if t963 = true then (if bt955.2 = bt959.2 then ((chunk_Best.f k l0 a1).bind fun t964 => ((estreatref14_Best.f k l0 a1).bind fun t965 => (if t964 = t965 then ((estreatlaw14_awake.f k).bind fun t966 => (some t966)) else (some false)))) else (some false)) else (some false))))) = some r := by rw [if_neg (show ¬ (false = true) by decide)] at H; exact H
  clear H
  have H := H1
  clear H1
  replace H := Option.bind_eq_some_iff.mp H
  obtain ⟨⟨t955, t956⟩, A80, H⟩ := H
  replace H : ((estreatref14_Put.f k l0 a1 a2).bind fun bt959 => ((estreatref01_Same.f k t955 bt959.1).bind fun t963 => (if t963 = true then (if t956 = bt959.2 then ((chunk_Best.f k l0 a1).bind fun t964 => ((estreatref14_Best.f k l0 a1).bind fun t965 => (if t964 = t965 then ((estreatlaw14_awake.f k).bind fun t966 => (some t966)) else (some false)))) else (some false)) else (some false)))) = some r := H
  have A8 := Aside0.mk A80
  clear A80
  replace H := Option.bind_eq_some_iff.mp H
  obtain ⟨⟨t959, t960⟩, A90, H⟩ := H
  replace H : ((estreatref01_Same.f k t955 t959).bind fun t963 => (if t963 = true then (if t956 = t960 then ((chunk_Best.f k l0 a1).bind fun t964 => ((estreatref14_Best.f k l0 a1).bind fun t965 => (if t964 = t965 then ((estreatlaw14_awake.f k).bind fun t966 => (some t966)) else (some false)))) else (some false)) else (some false))) = some r := H
  have A9 := Aside0.mk A90
  clear A90
  replace H := Option.bind_eq_some_iff.mp H
  obtain ⟨t963, A100, H⟩ := H
  replace H : (if t963 = true then (if t956 = t960 then ((chunk_Best.f k l0 a1).bind fun t964 => ((estreatref14_Best.f k l0 a1).bind fun t965 => (if t964 = t965 then ((estreatlaw14_awake.f k).bind fun t966 => (some t966)) else (some false)))) else (some false)) else (some false)) = some r := H
  have A10 := Aside0.mk A100
  clear A100
  by_cases c11 : t963 = true
  ·subst c11
   have H1 : (if t956 = t960 then ((chunk_Best.f k l0 a1).bind fun t964 => ((estreatref14_Best.f k l0 a1).bind fun t965 => (if t964 = t965 then ((estreatlaw14_awake.f k).bind fun t966 => (some t966)) else (some false)))) else (some false)) = some r := by rw [if_pos rfl] at H; exact H
   clear H
   have H := H1
   clear H1
   by_cases c12 : t956 = t960
   ·rw [if_pos c12] at H
    have c12b0 : (t956 == t960) = true := beq_iff_eq.mpr c12
    have c12b1 : (t956 != t960) = false := bne_eq_false_iff_eq.mpr c12
    clear c12
    replace H := Option.bind_eq_some_iff.mp H
    obtain ⟨t964, A130, H⟩ := H
    replace H : ((estreatref14_Best.f k l0 a1).bind fun t965 => (if t964 = t965 then ((estreatlaw14_awake.f k).bind fun t966 => (some t966)) else (some false))) = some r := H
    have A13 := Aside0.mk A130
    clear A130
    replace H := Option.bind_eq_some_iff.mp H
    obtain ⟨t965, A140, H⟩ := H
    replace H : (if t964 = t965 then ((estreatlaw14_awake.f k).bind fun t966 => (some t966)) else (some false)) = some r := H
    have A14 := Aside0.mk A140
    clear A140
    by_cases c15 : t964 = t965
    ·rw [if_pos c15] at H
     have c15b0 : (t964 == t965) = true := beq_iff_eq.mpr c15
     have c15b1 : (t964 != t965) = false := bne_eq_false_iff_eq.mpr c15
     clear c15
     replace H := Option.bind_eq_some_iff.mp H
     obtain ⟨t966, A160, H⟩ := H
     replace H : (some t966) = some r := H
     have A16 := Aside0.mk A160
     clear A160
     obtain rfl := Option.some.inj H
     go_enter Tryz.func3, Tryz.ntmps3
     go_wp2_with (first | ((with_reducible refine gate_callee (f := 4) rfl ?_); refine goesL_ (some 12) rfl rfl Tryz.func4 (by kernel_rfl) rfl #[.slice A0 l0.length c0, .int .i64 100, .int .i64 100] rfl EA ?_; (with_reducible refine (estreatref14_Great.calls k _ _ l0 100 100 false _ ?side1 ?side2 A4.out).mono ?_); (case side1 => exact CU HR0.out); (case side2 => exact HC0.out); rintro e w' ⟨rfl, ⟨nd, rfl⟩⟩; refine ⟨_, rfl, ?_⟩) | ((with_reducible refine gate_callee (f := 6) rfl ?_); refine goesL_ (some 18) rfl rfl Tryz.func6 (by kernel_rfl) rfl #[.slice A0 l0.length c0, .int .i64 a1, .int .i64 a2] rfl EA ?_; (with_reducible refine (chunk_Put.calls k _ _ l0 a1 a2 t955 t956 _ ?side1 ?side2 A8.out).mono ?_); (case side1 => exact CU HR0.out); (case side2 => exact HC0.out); rintro e w17 ⟨v957, rfl, ho0, hb⟩; refine ⟨_, rfl, ?_⟩; have n0_ := Aside0.mk (Kd.R_lower ho0 (below_size (BU HB.out))); have n1_ := Aside0.mk (below_step (BU HB.out) hb); clear HB; have HO958 := n0_; have HB := n1_; clear n0_ n1_; (try clear hb); (try clear hb2); (try clear hk); (try clear hi); (try clear ho0)) | ((with_reducible refine gate_callee (f := 7) rfl ?_); refine goesL_ (some 25) rfl rfl Tryz.func7 (by kernel_rfl) rfl #[.slice A0 l0.length c0, .int .i64 a1, .int .i64 a2] rfl EA ?_; (with_reducible refine (estreatref14_Put.calls k _ _ l0 a1 a2 t959 t960 _ ?side1 ?side2 A9.out).mono ?_); (case side1 => exact CU ((Kd.C_below HR0.out HB.out))); (case side2 => exact HC0.out); rintro e w18 ⟨v961, rfl, ho0, hb⟩; refine ⟨_, rfl, ?_⟩; have n0_ := Aside0.mk (Kd.R_elder' (RU HO958.out) (Kd.R_base ho0) hb); have n1_ := Aside0.mk (Kd.R_lower (Kd.R_new' ho0 (Kd.R_lt (RU HO958.out))) (below_size (BU HB.out))); have n2_ := Aside0.mk (below_step (BU HB.out) hb); clear HO958 HB; have HO958 := n0_; have HO962 := n1_; have HB := n2_; clear n0_ n1_ n2_; (try clear hb); (try clear hb2); (try clear hk); (try clear hi); (try clear ho0); obtain ⟨Ao19, co19, eo19⟩ := Kd.R_slice HO958.out; subst eo19; obtain ⟨Ao20, co20, eo20⟩ := Kd.R_slice HO962.out; subst eo20) | ((with_reducible refine gate_callee (f := 8) rfl ?_); refine goesL_ (some 30) rfl rfl Tryz.func8 (by kernel_rfl) rfl #[.slice Ao19 t955.length co19, .slice Ao20 t959.length co20] rfl EA ?_; (with_reducible refine (estreatref01_Same.calls k _ _ t955 _ _ t959 true _ ?side1 ?side2 ?side3 ?side4 A10.out).mono ?_); (case side1 => exact CU ((Kd.R_reads' HO958.out).2.2)); (case side2 => exact (Kd.R_reads' HO958.out).2.1); (case side3 => exact CU ((Kd.R_reads' HO962.out).2.2)); (case side4 => exact (Kd.R_reads' HO962.out).2.1); rintro e w' ⟨rfl, ⟨nd, rfl⟩⟩; refine ⟨_, rfl, ?_⟩) | (go_at_call 9; (with_reducible refine (chunk_Best.calls k _ _ l0 a1 t964 _ ?side1 ?side2 A13.out).mono ?_); (case side1 => exact CU ((Kd.C_below HR0.out (BU HB.out)))); (case side2 => exact HC0.out); rintro e w21 ⟨rfl, hb⟩; have n0_ := Aside0.mk (Kd.R_below (RU HO958.out) hb); have n1_ := Aside0.mk (Kd.R_below (RU HO962.out) hb); have n2_ := Aside0.mk (below_step (BU HB.out) hb); clear HO958 HO962 HB; have HO958 := n0_; have HO962 := n1_; have HB := n2_; clear n0_ n1_ n2_; (try clear hb); (try clear hb2); (try clear hk); (try clear hi)) | (go_at_call 10; (with_reducible refine (estreatref14_Best.calls k _ _ l0 a1 t965 _ ?side1 ?side2 A14.out).mono ?_); (case side1 => exact CU ((Kd.C_below HR0.out HB.out))); (case side2 => exact HC0.out); rintro e w22 ⟨rfl, hb⟩; have n0_ := Aside0.mk (Kd.R_below (RU HO958.out) hb); have n1_ := Aside0.mk (Kd.R_below (RU HO962.out) hb); have n2_ := Aside0.mk (below_step (BU HB.out) hb); clear HO958 HO962 HB; have HO958 := n0_; have HO962 := n1_; have HB := n2_; clear n0_ n1_ n2_; (try clear hb); (try clear hb2); (try clear hk); (try clear hi)) | (go_at_call 5; (with_reducible refine (estreatlaw14_awake.calls k  t966 _ A16.out).mono ?_); rintro e w23 ⟨rfl, hb⟩; have n0_ := Aside0.mk (Kd.R_below (RU HO958.out) hb); have n1_ := Aside0.mk (Kd.R_below (RU HO962.out) hb); have n2_ := Aside0.mk (below_step (BU HB.out) hb); clear HO958 HO962 HB; have HO958 := n0_; have HO962 := n1_; have HB := n2_; clear n0_ n1_ n2_; (try clear hb); (try clear hb2); (try clear hk); (try clear hi)))
     go_ret
     exact ⟨by first | rfl | (simp [errW_none, errW_some] <;> rfl) | (simp [*, errW_none, errW_some] <;> rfl), BU HB.out⟩
    ·rw [if_neg c15] at H
     have c15b0 : (t964 == t965) = false := beq_eq_false_iff_ne.mpr c15
     have c15b1 : (t964 != t965) = true := bne_iff_ne.mpr c15
     exact absurd (H.trans (congrArg some hr)) (by simp)
   ·rw [if_neg c12] at H
    have c12b0 : (t956 == t960) = false := beq_eq_false_iff_ne.mpr c12
    have c12b1 : (t956 != t960) = true := bne_iff_ne.mpr c12
    exact absurd (H.trans (congrArg some hr)) (by simp)
  ·replace c11 := Bool.eq_false_iff.mpr c11
   subst c11
   have H1 : (some false) = some r := by rw [if_neg (show ¬ (false = true) by decide)] at H; exact H
   clear H
   have H := H1
   clear H1
   exact absurd (H.trans (congrArg some hr)) (by simp)

end Go.Proofs.YtefcchpjbojdkaaGreatDoor.PChunkPuts
