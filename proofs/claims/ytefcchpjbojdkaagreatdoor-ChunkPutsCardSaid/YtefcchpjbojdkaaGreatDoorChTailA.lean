/- WRITTEN BY A PROGRAM (the printer's blocks of the last functions). -/
import Derived.Test.YtefcchpjbojdkaaGreatDoorChRef
import Derived.Test.YtefcchpjbojdkaaGreatDoorPChunkPutsx2
namespace Go.Proofs.YtefcchpjbojdkaaGreatDoor.PChunkPuts
open Go.RowKit Go.Proofs.YtefcchpjbojdkaaGreatDoorW.PrintWords Go.Proofs.YtefcchpjbojdkaaGreatDoorW.PrintLast Go.Proofs.YtefcchpjbojdkaaGreatDoorW.PrintMore
attribute [local go_sem] max2_int min2_int max_two min_two max_three min_three max_four min_four   -- for this text's walks alone
set_option linter.unusedVariables false
set_option linter.unusedSimpArgs false

/-! ### chunk_lay: function 14 -/
def chunk_lay.f (l0 : List (S34)) (a1 : Int) : Option (List Int) := if l0.length ≤ 100 ∧ (∀ v ∈ l0, v.f2.size ≤ 100) ∧ (∀ v ∈ l0, -9223372036854775808 ≤ v.f1 ∧ v.f1 ≤ 9223372036854775807) ∧ 0 ≤ a1 ∧ a1 ≤ 5 then some (Ch.layOf l0 a1.toNat) else none
theorem chunk_lay.calls (A0 : Option Addr) (c0 : Nat) (l0 : List (S34)) (a1 : Int) (r : List Int) (w : World) (hr0 : Kd.C k34 w A0 l0.length l0) (hc0 : l0.length ≤ c0) (h : chunk_lay.f l0 a1 = some r) :
  Calls Tryz.prog 14 #[.slice A0 l0.length c0, .int .i64 a1] w fun e w' => ∃ v0_ : Value, e = .returned v0_ ∧ Kd.R (Kd.int .u8) 5 w' w.heap.size (fun _ => True) v0_ r ∧ Below w.heap.size w w' := by
 unfold chunk_lay.f at h
 split at h
 case isFalse => cases h
 case isTrue hf =>
  obtain ⟨h1, h2, h3, h4, h5⟩ := hf
  obtain rfl := Option.some.inj h
  obtain ⟨n, rfl⟩ := Int.eq_ofNat_of_zero_le h4
  exact Ch.lay_ok w A0 c0 l0 hr0 ⟨h1, h2, h3⟩ n (by omega)

/-! ### chunk_Best: function 9 -/
mutual
def chunk_Best.j0 : Nat → List (S34) → Int → Bool → Option (Int)
 | 0, _, _, _ => none
 | k + 1, x0, x1, x17 => if x17 = true then (some (-1)) else (chunk_Best.l0 k x0 x1 (-1) 0 0)
def chunk_Best.l0 : Nat → List (S34) → Int → Int → Int → Int → Option (Int)
 | 0, _, _, _, _, _ => none
 | k + 1, x0, x1, x5, x6, x18 => if x18 < 6 then ((chunk_of.f x18 x1).bind fun t588 => (if t588 = true then ((chunk_lay.f x0 x18).bind fun t589 => (if x5 = (-1) then (chunk_Best.l0 k x0 x1 x18 (t589.length : Int) (wrap64 (x18 + 1))) else (if (t589.length : Int) < x6 then (chunk_Best.l0 k x0 x1 x18 (t589.length : Int) (wrap64 (x18 + 1))) else (chunk_Best.l0 k x0 x1 x5 x6 (wrap64 (x18 + 1)))))) else (chunk_Best.l0 k x0 x1 x5 x6 (wrap64 (x18 + 1))))) else (some x5)
end
def chunk_Best.f (k : Nat) (l0 : List (S34)) (a1 : Int) : Option (Int) := (chunk_isKind.f a1).bind fun t586 => (if t586 = true then ((chunk_check.f k l0 a1).bind fun t587 => (chunk_Best.j0 k l0 a1 (t587 != 0))) else (chunk_Best.j0 k l0 a1 true))
set_option maxHeartbeats 8000000 in
set_option maxRecDepth 100000 in
theorem chunk_Best.calls (k : Nat) (A0 : Option Addr) (c0 : Nat) (l0 : List (S34)) (a1 : Int) (r : Int) (w : World) (hr0 : Kd.C k34 w A0 l0.length l0) (hc0 : l0.length ≤ c0) (h : chunk_Best.f k l0 a1 = some r) :
  Calls Tryz.prog 9 #[.slice A0 l0.length c0, .int .i64 a1] w fun e w' => e = .returned (.int .i64 r) ∧ Below w.heap.size w w' := by
 have HR0 := Aside0.mk hr0
 have HC0 := Aside0.mk hc0
 clear hr0 hc0
 have HB := Aside0.mk (Below.refl w.heap.size w)
 have H : ((chunk_isKind.f a1).bind fun t586 => (if t586 = true then ((chunk_check.f k l0 a1).bind fun t587 => (chunk_Best.j0 k l0 a1 (t587 != 0))) else (chunk_Best.j0 k l0 a1 true))) = some r := h
 clear h
 have HC3 := Aside0.mk H
 clear H
 go_enter Tryz.func9, Tryz.ntmps9
 go_upto_region 1 with (fail)
 go_cut [17] (fun v17 wc => ∃ (kq : Nat) (x17_2 : Bool), v17 = .bool x17_2 ∧ Aside0 (chunk_Best.j0 kq l0 a1 x17_2 = some r) ∧ Aside0 (kq ≤ k) ∧ Aside0 (Below w.heap.size w wc))
 case first =>
  have H := HC3.out
  clear HC3
  replace H := Option.bind_eq_some_iff.mp H
  obtain ⟨t586, A40, H⟩ := H
  replace H : (if t586 = true then ((chunk_check.f k l0 a1).bind fun t587 => (chunk_Best.j0 k l0 a1 (t587 != 0))) else (chunk_Best.j0 k l0 a1 true)) = some r := H
  have A4 := Aside0.mk A40
  clear A40
  by_cases c5 : t586 = true
  ·subst c5
   have H1 : ((chunk_check.f k l0 a1).bind fun t587 => (chunk_Best.j0 k l0 a1 (t587 != 0))) = some r := by rw [if_pos rfl] at H; exact H
   clear H
   have H := H1
   clear H1
   replace H := Option.bind_eq_some_iff.mp H
   obtain ⟨t587, A60, H⟩ := H
   replace H : (chunk_Best.j0 k l0 a1 (t587 != 0)) = some r := H
   have A6 := Aside0.mk A60
   clear A60
   have H' := Aside0.mk H
   clear H
   go_wp2_with (first | ((with_reducible refine gate_callee (f := 11) rfl ?_); refine goesL_ (some 10) rfl rfl Tryz.func11 (by kernel_rfl) rfl #[.int .i64 a1] rfl EA ?_; (with_reducible refine (chunk_isKind.calls a1 true _ A4.out).mono ?_); rintro e w' ⟨rfl, ⟨nd, rfl⟩⟩; refine ⟨_, rfl, ?_⟩) | (go_at_call 13; (with_reducible refine (chunk_check.calls k _ _ l0 a1 t587 _ ?side1 ?side2 A6.out).mono ?_); (case side1 => exact CU ((Kd.C_below HR0.out (BU HB.out)))); (case side2 => exact HC0.out); rintro e w7 ⟨rfl, hb⟩; have n0_ := Aside0.mk (below_step (BU HB.out) hb); clear HB; have HB := n0_; clear n0_; (try clear hb); (try clear hb2); (try clear hk); (try clear hi)))
   go_meet
   case rel => exact ⟨_, ((t587 != 0)), EB, H', ⟨by first | omega | exact Nat.le_refl _⟩, ⟨BU HB.out⟩⟩
  ·replace c5 := Bool.eq_false_iff.mpr c5
   subst c5
   have H1 : (chunk_Best.j0 k l0 a1 true) = some r := by rw [if_neg (show ¬ (false = true) by decide)] at H; exact H
   clear H
   have H := H1
   clear H1
   have H' := Aside0.mk H
   clear H
   go_wp2_with (first | ((with_reducible refine gate_callee (f := 11) rfl ?_); refine goesL_ (some 10) rfl rfl Tryz.func11 (by kernel_rfl) rfl #[.int .i64 a1] rfl EA ?_; (with_reducible refine (chunk_isKind.calls a1 false _ A4.out).mono ?_); rintro e w' ⟨rfl, ⟨nd, rfl⟩⟩; refine ⟨_, rfl, ?_⟩))
   go_meet
   case rel => exact ⟨_, (true), EB, H', ⟨by first | omega | exact Nat.le_refl _⟩, ⟨BU HB.out⟩⟩
 case rest =>
  clear HC3
  try clear c1
  try clear p2
  try clear c5
  obtain ⟨kq, x17_2, rfl, HA, HJ2, HB⟩ := hcut
  cases kq with
  | zero => exact absurd HA.out (by simp [chunk_Best.j0])
  | succ kj2 =>
   have H := HA.out
   clear HA
   simp only [chunk_Best.j0] at H
   by_cases c8 : x17_2 = true
   ·subst c8
    have H1 : (some (-1)) = some r := by rw [if_pos rfl] at H; exact H
    clear H
    have H := H1
    clear H1
    obtain rfl := Option.some.inj H
    go_wp2
    go_ret
    exact ⟨by first | rfl | (simp [errW_none, errW_some] <;> rfl) | (simp [*, errW_none, errW_some] <;> rfl), BU HB.out⟩
   ·replace c8 := Bool.eq_false_iff.mpr c8
    subst c8
    have H1 : (chunk_Best.l0 kj2 l0 a1 (-1) 0 0) = some r := by rw [if_neg (show ¬ (false = true) by decide)] at H; exact H
    clear H
    have H := H1
    clear H1
    have H' := Aside0.mk H
    clear H
    go_wp2
    go_loopg [5, 6, 18] kj2 (fun kq v5 v6 v18 w' => ∃ (x5_2 : Int) (x6_2 : Int) (x18_2 : Int), v5 = .int .i64 x5_2 ∧ v6 = .int .i64 x6_2 ∧ v18 = .int .i64 x18_2 ∧ Aside0 (chunk_Best.l0 kq l0 a1 x5_2 x6_2 x18_2 = some r) ∧ Aside0 (kq ≤ kj2) ∧ Aside0 (Below w.heap.size w w'))
    case atStart => exact ⟨((-1)), (0), (0), EB, EB, EB, H', ⟨Nat.le_refl _⟩, ⟨BU HB.out⟩⟩
    case round =>
     clear H'
     try clear c1
     try clear p2
     try clear c5
     try clear c8
     try clear p2
     obtain ⟨x5_2, x6_2, x18_2, rfl, rfl, rfl, HA, HK2, HB⟩ := hrel
     cases gk with
     | zero => exact absurd HA.out (by simp [chunk_Best.l0])
     | succ k2 =>
      have H := HA.out
      clear HA
      simp only [chunk_Best.l0] at H
      by_cases c9 : x18_2 < 6
      ·rw [if_pos c9] at H
       have c9b0 : decide (x18_2 < 6) = true := decide_eq_true c9
       clear c9
       replace H := Option.bind_eq_some_iff.mp H
       obtain ⟨t588, A100, H⟩ := H
       replace H : (if t588 = true then ((chunk_lay.f l0 x18_2).bind fun t589 => (if x5_2 = (-1) then (chunk_Best.l0 k2 l0 a1 x18_2 (t589.length : Int) (wrap64 (x18_2 + 1))) else (if (t589.length : Int) < x6_2 then (chunk_Best.l0 k2 l0 a1 x18_2 (t589.length : Int) (wrap64 (x18_2 + 1))) else (chunk_Best.l0 k2 l0 a1 x5_2 x6_2 (wrap64 (x18_2 + 1)))))) else (chunk_Best.l0 k2 l0 a1 x5_2 x6_2 (wrap64 (x18_2 + 1)))) = some r := H
       have A10 := Aside0.mk A100
       clear A100
       by_cases c11 : t588 = true
       ·subst c11
        have H1 : ((chunk_lay.f l0 x18_2).bind fun t589 => (if x5_2 = (-1) then (chunk_Best.l0 k2 l0 a1 x18_2 (t589.length : Int) (wrap64 (x18_2 + 1))) else (if (t589.length : Int) < x6_2 then (chunk_Best.l0 k2 l0 a1 x18_2 (t589.length : Int) (wrap64 (x18_2 + 1))) else (chunk_Best.l0 k2 l0 a1 x5_2 x6_2 (wrap64 (x18_2 + 1)))))) = some r := by rw [if_pos rfl] at H; exact H
        clear H
        have H := H1
        clear H1
        replace H := Option.bind_eq_some_iff.mp H
        obtain ⟨t589, A120, H⟩ := H
        replace H : (if x5_2 = (-1) then (chunk_Best.l0 k2 l0 a1 x18_2 (t589.length : Int) (wrap64 (x18_2 + 1))) else (if (t589.length : Int) < x6_2 then (chunk_Best.l0 k2 l0 a1 x18_2 (t589.length : Int) (wrap64 (x18_2 + 1))) else (chunk_Best.l0 k2 l0 a1 x5_2 x6_2 (wrap64 (x18_2 + 1))))) = some r := H
        have A12 := Aside0.mk A120
        clear A120
        by_cases c13 : x5_2 = (-1)
        ·rw [if_pos c13] at H
         have c13b0 : (x5_2 == (-1)) = true := beq_iff_eq.mpr c13
         have c13b1 : (x5_2 != (-1)) = false := bne_eq_false_iff_eq.mpr c13
         clear c13
         have H' := Aside0.mk H
         clear H
         go_wp2_with (first | ((with_reducible refine gate_callee (f := 12) rfl ?_); refine goesL_ (some 23) rfl rfl Tryz.func12 (by kernel_rfl) rfl #[.int .i64 x18_2, .int .i64 a1] rfl EA ?_; (with_reducible refine (chunk_of.calls x18_2 a1 true _ A10.out).mono ?_); rintro e w' ⟨rfl, ⟨nd, rfl⟩⟩; refine ⟨_, rfl, ?_⟩) | ((with_reducible refine gate_callee (f := 14) rfl ?_); refine goesL_ (some 27) rfl rfl Tryz.func14 (by kernel_rfl) rfl #[.slice A0 l0.length c0, .int .i64 x18_2] rfl EA ?_; (with_reducible refine (chunk_lay.calls _ _ l0 x18_2 t589 _ ?side1 ?side2 A12.out).mono ?_); (case side1 => exact CU ((Kd.C_below HR0.out (BU HB.out)))); (case side2 => exact HC0.out); rintro e w14 ⟨v590, rfl, ho0, hb⟩; refine ⟨_, rfl, ?_⟩; have n0_ := Aside0.mk (Kd.R_lower ho0 (below_size (BU HB.out))); have n1_ := Aside0.mk (below_step (BU HB.out) hb); clear HB; have HO591 := n0_; have HB := n1_; clear n0_ n1_; (try clear hb); (try clear hb2); (try clear hk); (try clear hi); (try clear ho0); obtain ⟨Ao15, co15, eo15⟩ := Kd.R_slice HO591.out; subst eo15))
         go_roundg k2
         case measure => have := HJ2.out; have := HK2.out; omega
         case rel => exact ⟨(x18_2), ((t589.length : Int)), (wrap64 (x18_2 + 1)), EB, EB, EB, H', ⟨by have := HJ2.out; have := HK2.out; omega⟩, ⟨BU HB.out⟩⟩
        ·rw [if_neg c13] at H
         have c13b0 : (x5_2 == (-1)) = false := beq_eq_false_iff_ne.mpr c13
         have c13b1 : (x5_2 != (-1)) = true := bne_iff_ne.mpr c13
         by_cases c16 : (t589.length : Int) < x6_2
         ·rw [if_pos c16] at H
          have c16b0 : decide ((t589.length : Int) < x6_2) = true := decide_eq_true c16
          clear c16
          have H' := Aside0.mk H
          clear H
          go_wp2_with (first | ((with_reducible refine gate_callee (f := 12) rfl ?_); refine goesL_ (some 23) rfl rfl Tryz.func12 (by kernel_rfl) rfl #[.int .i64 x18_2, .int .i64 a1] rfl EA ?_; (with_reducible refine (chunk_of.calls x18_2 a1 true _ A10.out).mono ?_); rintro e w' ⟨rfl, ⟨nd, rfl⟩⟩; refine ⟨_, rfl, ?_⟩) | ((with_reducible refine gate_callee (f := 14) rfl ?_); refine goesL_ (some 27) rfl rfl Tryz.func14 (by kernel_rfl) rfl #[.slice A0 l0.length c0, .int .i64 x18_2] rfl EA ?_; (with_reducible refine (chunk_lay.calls _ _ l0 x18_2 t589 _ ?side1 ?side2 A12.out).mono ?_); (case side1 => exact CU ((Kd.C_below HR0.out (BU HB.out)))); (case side2 => exact HC0.out); rintro e w17 ⟨v590, rfl, ho0, hb⟩; refine ⟨_, rfl, ?_⟩; have n0_ := Aside0.mk (Kd.R_lower ho0 (below_size (BU HB.out))); have n1_ := Aside0.mk (below_step (BU HB.out) hb); clear HB; have HO591 := n0_; have HB := n1_; clear n0_ n1_; (try clear hb); (try clear hb2); (try clear hk); (try clear hi); (try clear ho0); obtain ⟨Ao18, co18, eo18⟩ := Kd.R_slice HO591.out; subst eo18))
          go_roundg k2
          case measure => have := HJ2.out; have := HK2.out; omega
          case rel => exact ⟨(x18_2), ((t589.length : Int)), (wrap64 (x18_2 + 1)), EB, EB, EB, H', ⟨by have := HJ2.out; have := HK2.out; omega⟩, ⟨BU HB.out⟩⟩
         ·rw [if_neg c16] at H
          have c16b0 : decide ((t589.length : Int) < x6_2) = false := decide_eq_false c16
          clear c16
          have H' := Aside0.mk H
          clear H
          go_wp2_with (first | ((with_reducible refine gate_callee (f := 12) rfl ?_); refine goesL_ (some 23) rfl rfl Tryz.func12 (by kernel_rfl) rfl #[.int .i64 x18_2, .int .i64 a1] rfl EA ?_; (with_reducible refine (chunk_of.calls x18_2 a1 true _ A10.out).mono ?_); rintro e w' ⟨rfl, ⟨nd, rfl⟩⟩; refine ⟨_, rfl, ?_⟩) | ((with_reducible refine gate_callee (f := 14) rfl ?_); refine goesL_ (some 27) rfl rfl Tryz.func14 (by kernel_rfl) rfl #[.slice A0 l0.length c0, .int .i64 x18_2] rfl EA ?_; (with_reducible refine (chunk_lay.calls _ _ l0 x18_2 t589 _ ?side1 ?side2 A12.out).mono ?_); (case side1 => exact CU ((Kd.C_below HR0.out (BU HB.out)))); (case side2 => exact HC0.out); rintro e w19 ⟨v590, rfl, ho0, hb⟩; refine ⟨_, rfl, ?_⟩; have n0_ := Aside0.mk (Kd.R_lower ho0 (below_size (BU HB.out))); have n1_ := Aside0.mk (below_step (BU HB.out) hb); clear HB; have HO591 := n0_; have HB := n1_; clear n0_ n1_; (try clear hb); (try clear hb2); (try clear hk); (try clear hi); (try clear ho0); obtain ⟨Ao20, co20, eo20⟩ := Kd.R_slice HO591.out; subst eo20))
          go_roundg k2
          case measure => have := HJ2.out; have := HK2.out; omega
          case rel => exact ⟨(x5_2), (x6_2), (wrap64 (x18_2 + 1)), EB, EB, EB, H', ⟨by have := HJ2.out; have := HK2.out; omega⟩, ⟨BU HB.out⟩⟩
       ·replace c11 := Bool.eq_false_iff.mpr c11
        subst c11
        have H1 : (chunk_Best.l0 k2 l0 a1 x5_2 x6_2 (wrap64 (x18_2 + 1))) = some r := by rw [if_neg (show ¬ (false = true) by decide)] at H; exact H
        clear H
        have H := H1
        clear H1
        have H' := Aside0.mk H
        clear H
        go_wp2_with (first | ((with_reducible refine gate_callee (f := 12) rfl ?_); refine goesL_ (some 23) rfl rfl Tryz.func12 (by kernel_rfl) rfl #[.int .i64 x18_2, .int .i64 a1] rfl EA ?_; (with_reducible refine (chunk_of.calls x18_2 a1 false _ A10.out).mono ?_); rintro e w' ⟨rfl, ⟨nd, rfl⟩⟩; refine ⟨_, rfl, ?_⟩))
        go_roundg k2
        case measure => have := HJ2.out; have := HK2.out; omega
        case rel => exact ⟨(x5_2), (x6_2), (wrap64 (x18_2 + 1)), EB, EB, EB, H', ⟨by have := HJ2.out; have := HK2.out; omega⟩, ⟨BU HB.out⟩⟩
      ·rw [if_neg c9] at H
       have c9b0 : decide (x18_2 < 6) = false := decide_eq_false c9
       clear c9
       obtain rfl := Option.some.inj H
       go_wp2
       go_ret
       exact ⟨by first | rfl | (simp [errW_none, errW_some] <;> rfl) | (simp [*, errW_none, errW_some] <;> rfl), BU HB.out⟩

/-! ### chunk_Put: function 6 -/
def chunk_Put.j0 : Nat → List (S34) → Int → Int → Bool → Option (List Int × Int)
 | 0, _, _, _, _ => none
 | k + 1, x0, x1, x2, x21 => if x21 = true then (some (([] : List Int), 1)) else ((chunk_check.f k x0 x1).bind fun t594 => (if t594 = 0 then (if x2 = (-1) then ((chunk_Best.f k x0 x1).bind fun t595 => ((chunk_lay.f x0 t595).bind fun t596 => (some (t596, 0)))) else ((chunk_lay.f x0 x2).bind fun t599 => (some (t599, 0)))) else (some (([] : List Int), t594))))
def chunk_Put.f (k : Nat) (l0 : List (S34)) (a1 : Int) (a2 : Int) : Option (List Int × Int) := (chunk_isKind.f a1).bind fun t592 => (if t592 = true then (if a2 = (-1) then (chunk_Put.j0 k l0 a1 a2 false) else ((chunk_of.f a2 a1).bind fun t593 => (chunk_Put.j0 k l0 a1 a2 (!t593)))) else (chunk_Put.j0 k l0 a1 a2 true))
set_option maxHeartbeats 8000000 in
set_option maxRecDepth 100000 in
theorem chunk_Put.calls (k : Nat) (A0 : Option Addr) (c0 : Nat) (l0 : List (S34)) (a1 : Int) (a2 : Int) (r1 : List Int) (r2 : Int) (w : World) (hr0 : Kd.C k34 w A0 l0.length l0) (hc0 : l0.length ≤ c0) (h : chunk_Put.f k l0 a1 a2 = some (r1, r2)) :
  Calls Tryz.prog 6 #[.slice A0 l0.length c0, .int .i64 a1, .int .i64 a2] w fun e w' => ∃ v0_ : Value, e = .returned (.tuple #[v0_, .int .i64 r2]) ∧ Kd.R (Kd.int .u8) 5 w' w.heap.size (fun _ => True) v0_ r1 ∧ Below w.heap.size w w' := by
 have HR0 := Aside0.mk hr0
 have HC0 := Aside0.mk hc0
 clear hr0 hc0
 have HB := Aside0.mk (Below.refl w.heap.size w)
 have H : ((chunk_isKind.f a1).bind fun t592 => (if t592 = true then (if a2 = (-1) then (chunk_Put.j0 k l0 a1 a2 false) else ((chunk_of.f a2 a1).bind fun t593 => (chunk_Put.j0 k l0 a1 a2 (!t593)))) else (chunk_Put.j0 k l0 a1 a2 true))) = some (r1, r2) := h
 clear h
 have HC4 := Aside0.mk H
 clear H
 go_enter Tryz.func6, Tryz.ntmps6
 go_upto_region 1 with (fail)
 go_cut [21] (fun v21 wc => ∃ (kq : Nat) (x21_3 : Bool), v21 = .bool x21_3 ∧ Aside0 (chunk_Put.j0 kq l0 a1 a2 x21_3 = some (r1, r2)) ∧ Aside0 (kq ≤ k) ∧ Aside0 (Below w.heap.size w wc))
 case first =>
  have H := HC4.out
  clear HC4
  replace H := Option.bind_eq_some_iff.mp H
  obtain ⟨t592, A50, H⟩ := H
  replace H : (if t592 = true then (if a2 = (-1) then (chunk_Put.j0 k l0 a1 a2 false) else ((chunk_of.f a2 a1).bind fun t593 => (chunk_Put.j0 k l0 a1 a2 (!t593)))) else (chunk_Put.j0 k l0 a1 a2 true)) = some (r1, r2) := H
  have A5 := Aside0.mk A50
  clear A50
  by_cases c6 : t592 = true
  ·subst c6
   have H1 : (if a2 = (-1) then (chunk_Put.j0 k l0 a1 a2 false) else ((chunk_of.f a2 a1).bind fun t593 => (chunk_Put.j0 k l0 a1 a2 (!t593)))) = some (r1, r2) := by rw [if_pos rfl] at H; exact H
   clear H
   have H := H1
   clear H1
   by_cases c7 : a2 = (-1)
   ·rw [if_pos c7] at H
    have c7b0 : (a2 == (-1)) = true := beq_iff_eq.mpr c7
    have c7b1 : (a2 != (-1)) = false := bne_eq_false_iff_eq.mpr c7
    clear c7
    (first | rw [c7b0] | (simp only [i64_w, i32_w]; rw [c7b0]) | skip)
    have H' := Aside0.mk H
    clear H
    go_wp2_with (first | ((with_reducible refine gate_callee (f := 11) rfl ?_); refine goesL_ (some 10) rfl rfl Tryz.func11 (by kernel_rfl) rfl #[.int .i64 a1] rfl EA ?_; (with_reducible refine (chunk_isKind.calls a1 true _ A5.out).mono ?_); rintro e w' ⟨rfl, ⟨nd, rfl⟩⟩; refine ⟨_, rfl, ?_⟩))
    go_meet
    case rel => exact ⟨_, (false), EB, H', ⟨by first | omega | exact Nat.le_refl _⟩, ⟨BU HB.out⟩⟩
   ·rw [if_neg c7] at H
    have c7b0 : (a2 == (-1)) = false := beq_eq_false_iff_ne.mpr c7
    have c7b1 : (a2 != (-1)) = true := bne_iff_ne.mpr c7
    (first | rw [c7b0] | (simp only [i64_w, i32_w]; rw [c7b0]) | skip)
    replace H := Option.bind_eq_some_iff.mp H
    obtain ⟨t593, A80, H⟩ := H
    replace H : (chunk_Put.j0 k l0 a1 a2 (!t593)) = some (r1, r2) := H
    have A8 := Aside0.mk A80
    clear A80
    have H' := Aside0.mk H
    clear H
    go_wp2_with (first | ((with_reducible refine gate_callee (f := 11) rfl ?_); refine goesL_ (some 10) rfl rfl Tryz.func11 (by kernel_rfl) rfl #[.int .i64 a1] rfl EA ?_; (with_reducible refine (chunk_isKind.calls a1 true _ A5.out).mono ?_); rintro e w' ⟨rfl, ⟨nd, rfl⟩⟩; refine ⟨_, rfl, ?_⟩) | (go_at_call 12; (with_reducible refine (chunk_of.calls a2 a1 t593 _ A8.out).mono ?_); rintro e w' ⟨rfl, ⟨nd, rfl⟩⟩))
    go_meet
    case rel => exact ⟨_, (!t593), EB, H', ⟨by first | omega | exact Nat.le_refl _⟩, ⟨BU HB.out⟩⟩
  ·replace c6 := Bool.eq_false_iff.mpr c6
   subst c6
   have H1 : (chunk_Put.j0 k l0 a1 a2 true) = some (r1, r2) := by rw [if_neg (show ¬ (false = true) by decide)] at H; exact H
   clear H
   have H := H1
   clear H1
   have H' := Aside0.mk H
   clear H
   go_wp2_with (first | ((with_reducible refine gate_callee (f := 11) rfl ?_); refine goesL_ (some 10) rfl rfl Tryz.func11 (by kernel_rfl) rfl #[.int .i64 a1] rfl EA ?_; (with_reducible refine (chunk_isKind.calls a1 false _ A5.out).mono ?_); rintro e w' ⟨rfl, ⟨nd, rfl⟩⟩; refine ⟨_, rfl, ?_⟩))
   go_meet
   case rel => exact ⟨_, (true), EB, H', ⟨by first | omega | exact Nat.le_refl _⟩, ⟨BU HB.out⟩⟩
 case rest =>
  clear HC4
  try clear c1
  try clear p2
  try clear c6
  try clear c7
  try clear c7b0
  try clear c7b1
  obtain ⟨kq, x21_3, rfl, HA, HJ3, HB⟩ := hcut
  cases kq with
  | zero => exact absurd HA.out (by simp [chunk_Put.j0])
  | succ kj3 =>
   have H := HA.out
   clear HA
   simp only [chunk_Put.j0] at H
   by_cases c9 : x21_3 = true
   ·subst c9
    have H1 : (some (([] : List Int), 1)) = some (r1, r2) := by rw [if_pos rfl] at H; exact H
    clear H
    have H := H1
    clear H1
    simp only [Option.some.injEq, Prod.mk.injEq] at H
    obtain ⟨rfl, rfl⟩ := H
    go_wp2
    go_ret2
    exact ⟨_, by first | rfl | (simp [errW_none, errW_some] <;> rfl) | (simp [*, errW_none, errW_some] <;> rfl), by first | exact Kd.R_nil _ _ _ _ _ | exact Kd.N_nil _ _ _ _ _ | exact Kd.V_nil _ _ _ _ _ | exact Kd.Q_nil _ _ _ _ _ | exact Kd.S_nil _ _ _ _ _, BU HB.out⟩
   ·replace c9 := Bool.eq_false_iff.mpr c9
    subst c9
    have H1 : ((chunk_check.f kj3 l0 a1).bind fun t594 => (if t594 = 0 then (if a2 = (-1) then ((chunk_Best.f kj3 l0 a1).bind fun t595 => ((chunk_lay.f l0 t595).bind fun t596 => (some (t596, 0)))) else ((chunk_lay.f l0 a2).bind fun t599 => (some (t599, 0)))) else (some (([] : List Int), t594)))) = some (r1, r2) := by rw [if_neg (show ¬ (false = true) by decide)] at H; exact H
    clear H
    have H := H1
    clear H1
    replace H := Option.bind_eq_some_iff.mp H
    obtain ⟨t594, A100, H⟩ := H
    replace H : (if t594 = 0 then (if a2 = (-1) then ((chunk_Best.f kj3 l0 a1).bind fun t595 => ((chunk_lay.f l0 t595).bind fun t596 => (some (t596, 0)))) else ((chunk_lay.f l0 a2).bind fun t599 => (some (t599, 0)))) else (some (([] : List Int), t594))) = some (r1, r2) := H
    have A10 := Aside0.mk A100
    clear A100
    by_cases c11 : t594 = 0
    ·rw [if_pos c11] at H
     have c11b0 : (t594 == 0) = true := beq_iff_eq.mpr c11
     have c11b1 : (t594 != 0) = false := bne_eq_false_iff_eq.mpr c11
     clear c11
     by_cases c12 : a2 = (-1)
     ·rw [if_pos c12] at H
      have c12b0 : (a2 == (-1)) = true := beq_iff_eq.mpr c12
      have c12b1 : (a2 != (-1)) = false := bne_eq_false_iff_eq.mpr c12
      clear c12
      replace H := Option.bind_eq_some_iff.mp H
      obtain ⟨t595, A130, H⟩ := H
      replace H : ((chunk_lay.f l0 t595).bind fun t596 => (some (t596, 0))) = some (r1, r2) := H
      have A13 := Aside0.mk A130
      clear A130
      replace H := Option.bind_eq_some_iff.mp H
      obtain ⟨t596, A140, H⟩ := H
      replace H : (some (t596, 0)) = some (r1, r2) := H
      have A14 := Aside0.mk A140
      clear A140
      simp only [Option.some.injEq, Prod.mk.injEq] at H
      obtain ⟨rfl, rfl⟩ := H
      go_wp2_with (first | ((with_reducible refine gate_callee (f := 13) rfl ?_); refine goesL_ (some 24) rfl rfl Tryz.func13 (by kernel_rfl) rfl #[.slice A0 l0.length c0, .int .i64 a1] rfl EA ?_; (with_reducible refine (chunk_check.calls kj3 _ _ l0 a1 t594 _ ?side1 ?side2 A10.out).mono ?_); (case side1 => exact CU ((Kd.C_below HR0.out HB.out))); (case side2 => exact HC0.out); rintro e w15 ⟨rfl, hb⟩; refine ⟨_, rfl, ?_⟩; have n0_ := Aside0.mk (below_step (BU HB.out) hb); clear HB; have HB := n0_; clear n0_; (try clear hb); (try clear hb2); (try clear hk); (try clear hi)) | ((with_reducible refine gate_callee (f := 9) rfl ?_); refine goesL_ (some 32) rfl rfl Tryz.func9 (by kernel_rfl) rfl #[.slice A0 l0.length c0, .int .i64 a1] rfl EA ?_; (with_reducible refine (chunk_Best.calls kj3 _ _ l0 a1 t595 _ ?side1 ?side2 A13.out).mono ?_); (case side1 => exact CU ((Kd.C_below HR0.out HB.out))); (case side2 => exact HC0.out); rintro e w16 ⟨rfl, hb⟩; refine ⟨_, rfl, ?_⟩; have n0_ := Aside0.mk (below_step (BU HB.out) hb); clear HB; have HB := n0_; clear n0_; (try clear hb); (try clear hb2); (try clear hk); (try clear hi)) | ((with_reducible refine gate_callee (f := 14) rfl ?_); refine goesL_ (some 35) rfl rfl Tryz.func14 (by kernel_rfl) rfl #[.slice A0 l0.length c0, .int .i64 t595] rfl EA ?_; (with_reducible refine (chunk_lay.calls _ _ l0 t595 t596 _ ?side1 ?side2 A14.out).mono ?_); (case side1 => exact CU ((Kd.C_below HR0.out HB.out))); (case side2 => exact HC0.out); rintro e w17 ⟨v597, rfl, ho0, hb⟩; refine ⟨_, rfl, ?_⟩; have n0_ := Aside0.mk (Kd.R_lower ho0 (below_size (BU HB.out))); have n1_ := Aside0.mk (below_step (BU HB.out) hb); clear HB; have HO598 := n0_; have HB := n1_; clear n0_ n1_; (try clear hb); (try clear hb2); (try clear hk); (try clear hi); (try clear ho0)))
      go_ret2
      exact ⟨_, by first | rfl | (simp [errW_none, errW_some] <;> rfl) | (simp [*, errW_none, errW_some] <;> rfl), RU HO598.out, BU HB.out⟩
     ·rw [if_neg c12] at H
      have c12b0 : (a2 == (-1)) = false := beq_eq_false_iff_ne.mpr c12
      have c12b1 : (a2 != (-1)) = true := bne_iff_ne.mpr c12
      replace H := Option.bind_eq_some_iff.mp H
      obtain ⟨t599, A180, H⟩ := H
      replace H : (some (t599, 0)) = some (r1, r2) := H
      have A18 := Aside0.mk A180
      clear A180
      simp only [Option.some.injEq, Prod.mk.injEq] at H
      obtain ⟨rfl, rfl⟩ := H
      go_wp2_with (first | ((with_reducible refine gate_callee (f := 13) rfl ?_); refine goesL_ (some 24) rfl rfl Tryz.func13 (by kernel_rfl) rfl #[.slice A0 l0.length c0, .int .i64 a1] rfl EA ?_; (with_reducible refine (chunk_check.calls kj3 _ _ l0 a1 t594 _ ?side1 ?side2 A10.out).mono ?_); (case side1 => exact CU ((Kd.C_below HR0.out HB.out))); (case side2 => exact HC0.out); rintro e w19 ⟨rfl, hb⟩; refine ⟨_, rfl, ?_⟩; have n0_ := Aside0.mk (below_step (BU HB.out) hb); clear HB; have HB := n0_; clear n0_; (try clear hb); (try clear hb2); (try clear hk); (try clear hi)) | ((with_reducible refine gate_callee (f := 14) rfl ?_); refine goesL_ (some 35) rfl rfl Tryz.func14 (by kernel_rfl) rfl #[.slice A0 l0.length c0, .int .i64 a2] rfl EA ?_; (with_reducible refine (chunk_lay.calls _ _ l0 a2 t599 _ ?side1 ?side2 A18.out).mono ?_); (case side1 => exact CU ((Kd.C_below HR0.out HB.out))); (case side2 => exact HC0.out); rintro e w20 ⟨v600, rfl, ho0, hb⟩; refine ⟨_, rfl, ?_⟩; have n0_ := Aside0.mk (Kd.R_lower ho0 (below_size (BU HB.out))); have n1_ := Aside0.mk (below_step (BU HB.out) hb); clear HB; have HO601 := n0_; have HB := n1_; clear n0_ n1_; (try clear hb); (try clear hb2); (try clear hk); (try clear hi); (try clear ho0)))
      go_ret2
      exact ⟨_, by first | rfl | (simp [errW_none, errW_some] <;> rfl) | (simp [*, errW_none, errW_some] <;> rfl), RU HO601.out, BU HB.out⟩
    ·rw [if_neg c11] at H
     have c11b0 : (t594 == 0) = false := beq_eq_false_iff_ne.mpr c11
     have c11b1 : (t594 != 0) = true := bne_iff_ne.mpr c11
     simp only [Option.some.injEq, Prod.mk.injEq] at H
     obtain ⟨rfl, rfl⟩ := H
     go_wp2_with (first | ((with_reducible refine gate_callee (f := 13) rfl ?_); refine goesL_ (some 24) rfl rfl Tryz.func13 (by kernel_rfl) rfl #[.slice A0 l0.length c0, .int .i64 a1] rfl EA ?_; (with_reducible refine (chunk_check.calls kj3 _ _ l0 a1 t594 _ ?side1 ?side2 A10.out).mono ?_); (case side1 => exact CU ((Kd.C_below HR0.out HB.out))); (case side2 => exact HC0.out); rintro e w21 ⟨rfl, hb⟩; refine ⟨_, rfl, ?_⟩; have n0_ := Aside0.mk (below_step (BU HB.out) hb); clear HB; have HB := n0_; clear n0_; (try clear hb); (try clear hb2); (try clear hk); (try clear hi)))
     go_ret2
     exact ⟨_, by first | rfl | (simp [errW_none, errW_some] <;> rfl) | (simp [*, errW_none, errW_some] <;> rfl), by first | exact Kd.R_nil _ _ _ _ _ | exact Kd.N_nil _ _ _ _ _ | exact Kd.V_nil _ _ _ _ _ | exact Kd.Q_nil _ _ _ _ _ | exact Kd.S_nil _ _ _ _ _, BU HB.out⟩

end Go.Proofs.YtefcchpjbojdkaaGreatDoor.PChunkPuts
