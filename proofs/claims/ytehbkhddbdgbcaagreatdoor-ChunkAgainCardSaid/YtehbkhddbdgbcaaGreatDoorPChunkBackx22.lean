/- WRITTEN BY A PROGRAM of this session (the turned printer's blocks of the last functions). -/
import Derived.Test.YtehbkhddbdgbcaaGreatDoorChGoE
import Derived.Test.YtehbkhddbdgbcaaGreatDoorPChunkBackx2
import Derived.Test.YtehbkhddbdgbcaaGreatDoorPChunkBackx14
import Derived.Test.YtehbkhddbdgbcaaGreatDoorPChunkBackx16
namespace Go.Proofs.YtehbkhddbdgbcaaGreatDoor.PChunkBack
open Go.RowKit Go.Proofs.YtehbkhddbdgbcaaGreatDoorW.PrintWords Go.Proofs.YtehbkhddbdgbcaaGreatDoorW.PrintLast Go.Proofs.YtehbkhddbdgbcaaGreatDoorW.PrintMore
attribute [local go_sem] max2_int min2_int max_two min_two max_three min_three max_four min_four   -- for this text's walks alone
set_option linter.unusedVariables false
set_option linter.unusedSimpArgs false

/-! ### chunk_lay: function 17 -/
def chunk_lay.f (l0 : List (S40)) (a1 : Int) : Option (List Int) := if l0.length ≤ 300 ∧ (∀ v ∈ l0, v.f2.size ≤ 1000) ∧ (∀ v ∈ l0, -9223372036854775808 ≤ v.f1 ∧ v.f1 ≤ 9223372036854775807) ∧ 0 ≤ a1 ∧ a1 ≤ 5 then some (Ch.layOf l0 a1.toNat) else none
theorem chunk_lay.calls (A0 : Option Addr) (c0 : Nat) (l0 : List (S40)) (a1 : Int) (r : List Int) (w : World) (hr0 : Kd.C k40 w A0 l0.length l0) (hc0 : l0.length ≤ c0) (h : chunk_lay.f l0 a1 = some r) :
  Calls Tryz.prog 17 #[.slice A0 l0.length c0, .int .i64 a1] w fun e w' => ∃ v0_ : Value, e = .returned v0_ ∧ Kd.R (Kd.int .u8) 5 w' w.heap.size (fun _ => True) v0_ r ∧ Below w.heap.size w w' := by
 unfold chunk_lay.f at h
 split at h
 case isFalse => cases h
 case isTrue hf =>
  obtain ⟨h1, h2, h3, h4, h5⟩ := hf; obtain rfl := Option.some.inj h; obtain ⟨n, rfl⟩ := Int.eq_ofNat_of_zero_le h4; exact Ch.lay_ok w A0 c0 l0 hr0 ⟨h1, h2, h3⟩ n (by omega)

/-! ### chunk_Get: function 10 -/
def chunk_Get.f (k : Nat) (l0 : List Int) (a1 : Int) (a2 : Int) : Option (List (S40) × Int) := Ch.getOf k l0 a1 a2
theorem chunk_Get.calls (k : Nat) (A0 : Option Addr) (c0 : Nat) (l0 : List Int) (a1 : Int) (a2 : Int) (r1 : List (S40)) (r2 : Int) (w : World) (hr0 : Kd.C (Kd.int .u8) w A0 l0.length l0) (hc0 : l0.length ≤ c0) (hG : HG w) (h : chunk_Get.f k l0 a1 a2 = some (r1, r2)) :
  Calls Tryz.prog 10 #[.slice A0 l0.length c0, .int .i64 a1, .int .i64 a2] w fun e w' => ∃ v0_ : Value, e = .returned (.tuple #[v0_, .int .i64 r2]) ∧ Kd.R k40 40 w' w.heap.size (fun _ => True) v0_ r1 ∧ Below w.heap.size w w' := Ch.get_ok k w A0 c0 l0 a1 a2 r1 r2 hr0 hc0 hG h

/-! ### chunk_Best: function 9 -/
mutual
def chunk_Best.j0 : Nat → List (S40) → Int → Bool → Option (Int)
 | 0, _, _, _ => none
 | k + 1, x0, x1, x17 => if x17 = true then (some (-1)) else (chunk_Best.l0 k x0 x1 (-1) 0 0)
def chunk_Best.l0 : Nat → List (S40) → Int → Int → Int → Int → Option (Int)
 | 0, _, _, _, _, _ => none
 | k + 1, x0, x1, x5, x6, x18 => if x18 < 6 then ((chunk_of.f x18 x1).bind fun t539 => (if t539 = true then ((chunk_lay.f x0 x18).bind fun t540 => (if x5 = (-1) then (chunk_Best.l0 k x0 x1 x18 (t540.length : Int) (wrap64 (x18 + 1))) else (if (t540.length : Int) < x6 then (chunk_Best.l0 k x0 x1 x18 (t540.length : Int) (wrap64 (x18 + 1))) else (chunk_Best.l0 k x0 x1 x5 x6 (wrap64 (x18 + 1)))))) else (chunk_Best.l0 k x0 x1 x5 x6 (wrap64 (x18 + 1))))) else (some x5)
end
def chunk_Best.f (k : Nat) (l0 : List (S40)) (a1 : Int) : Option (Int) := (chunk_isKind.f a1).bind fun t537 => (if t537 = true then ((chunk_check.f k l0 a1).bind fun t538 => (chunk_Best.j0 k l0 a1 (t538 != 0))) else (chunk_Best.j0 k l0 a1 true))
set_option maxHeartbeats 8000000 in
set_option maxRecDepth 100000 in
theorem chunk_Best.calls (k : Nat) (A0 : Option Addr) (c0 : Nat) (l0 : List (S40)) (a1 : Int) (r : Int) (w : World) (hr0 : Kd.C k40 w A0 l0.length l0) (hc0 : l0.length ≤ c0) (h : chunk_Best.f k l0 a1 = some r) :
  Calls Tryz.prog 9 #[.slice A0 l0.length c0, .int .i64 a1] w fun e w' => e = .returned (.int .i64 r) ∧ Below w.heap.size w w' := by
 have HR0 := Aside0.mk hr0; have HC0 := Aside0.mk hc0; clear hr0 hc0; have HB := Aside0.mk (Below.refl w.heap.size w); have H : ((chunk_isKind.f a1).bind fun t537 => (if t537 = true then ((chunk_check.f k l0 a1).bind fun t538 => (chunk_Best.j0 k l0 a1 (t538 != 0))) else (chunk_Best.j0 k l0 a1 true))) = some r := h; clear h; have HC3 := Aside0.mk H; clear H; go_enter Tryz.func9, Tryz.ntmps9
 go_upto_region 1 with (fail)
 go_cut [17] (fun v17 wc => ∃ (kq : Nat) (x17_2 : Bool), v17 = .bool x17_2 ∧ Aside0 (chunk_Best.j0 kq l0 a1 x17_2 = some r) ∧ Aside0 (kq ≤ k) ∧ Aside0 (Below w.heap.size w wc))
 case first =>
  have H := HC3.out; clear HC3; replace H := Option.bind_eq_some_iff.mp H; obtain ⟨t537, A40, H⟩ := H; (try dsimp only at H); have A4 := Aside0.mk A40; clear A40
  by_cases c5 : t537 = true
  ·subst c5
   have H1 : ((chunk_check.f k l0 a1).bind fun t538 => (chunk_Best.j0 k l0 a1 (t538 != 0))) = some r := by rw [if_pos rfl] at H; exact H
   clear H; have H := H1; clear H1; replace H := Option.bind_eq_some_iff.mp H; obtain ⟨t538, A60, H⟩ := H; (try dsimp only at H); have A6 := Aside0.mk A60; clear A60; have H' := Aside0.mk H; clear H
   go_wp2_with (first | (go_at_call 14; (with_reducible refine (chunk_isKind.calls a1 true _ A4.out).mono ?_); rintro e w' ⟨rfl, ⟨nd, rfl⟩⟩) | (go_at_call 16; (with_reducible refine (chunk_check.calls k _ _ l0 a1 t538 _ ?side1 ?side2 A6.out).mono ?_); (case side1 => exact CU ((Kd.C_below HR0.out (BU HB.out)))); (case side2 => exact HC0.out); rintro e w7 ⟨rfl, hb⟩; replace HB := Aside0.mk (below_step (BU HB.out) hb); clear hb))
   go_meet
   case rel => exact ⟨_, ((t538 != 0)), EB, H', ⟨by first | omega | exact Nat.le_refl _⟩, ⟨BU HB.out⟩⟩
  ·replace c5 := Bool.eq_false_iff.mpr c5; subst c5
   have H1 : (chunk_Best.j0 k l0 a1 true) = some r := by rw [if_neg (show ¬ (false = true) by decide)] at H; exact H
   clear H; have H := H1; clear H1; have H' := Aside0.mk H; clear H
   go_wp2_with (first | (go_at_call 14; (with_reducible refine (chunk_isKind.calls a1 false _ A4.out).mono ?_); rintro e w' ⟨rfl, ⟨nd, rfl⟩⟩))
   go_meet
   case rel => exact ⟨_, (true), EB, H', ⟨by first | omega | exact Nat.le_refl _⟩, ⟨BU HB.out⟩⟩
 case rest =>
  clear HC3; (try clear c1); (try clear p2); (try clear c5); obtain ⟨kq, x17_2, rfl, HA, HJ2, HB⟩ := hcut
  cases kq with
  | zero => exact absurd HA.out (by simp [chunk_Best.j0])
  | succ kj2 =>
   have H := HA.out; clear HA; simp only [chunk_Best.j0] at H
   by_cases c8 : x17_2 = true
   ·subst c8
    have H1 : (some (-1)) = some r := by rw [if_pos rfl] at H; exact H
    clear H; have H := H1; clear H1; obtain rfl := Option.some.inj H; go_wp2
    go_ret
    exact ⟨ER, BU HB.out⟩
   ·replace c8 := Bool.eq_false_iff.mpr c8; subst c8
    have H1 : (chunk_Best.l0 kj2 l0 a1 (-1) 0 0) = some r := by rw [if_neg (show ¬ (false = true) by decide)] at H; exact H
    clear H; have H := H1; clear H1; have H' := Aside0.mk H; clear H; go_wp2
    go_loopg [5, 6, 18] kj2 (fun kq v5 v6 v18 w' => ∃ (x5_2 : Int) (x6_2 : Int) (x18_2 : Int), v5 = .int .i64 x5_2 ∧ v6 = .int .i64 x6_2 ∧ v18 = .int .i64 x18_2 ∧ Aside0 (chunk_Best.l0 kq l0 a1 x5_2 x6_2 x18_2 = some r) ∧ Aside0 (kq ≤ kj2) ∧ Aside0 (Below w.heap.size w w'))
    case atStart => exact ⟨((-1)), (0), (0), EB, EB, EB, H', ⟨Nat.le_refl _⟩, ⟨BU HB.out⟩⟩
    case round =>
     clear H'; (try clear c1); (try clear p2); (try clear c5); (try clear c8); (try clear p2); obtain ⟨x5_2, x6_2, x18_2, rfl, rfl, rfl, HA, HK2, HB⟩ := hrel
     cases gk with
     | zero => exact absurd HA.out (by simp [chunk_Best.l0])
     | succ k2 =>
      have H := HA.out; clear HA; simp only [chunk_Best.l0] at H
      by_cases c9 : x18_2 < 6
      ·rw [if_pos c9] at H; have c9b0 := decide_eq_true c9; clear c9; replace H := Option.bind_eq_some_iff.mp H; obtain ⟨t539, A100, H⟩ := H; (try dsimp only at H); have A10 := Aside0.mk A100; clear A100
       by_cases c11 : t539 = true
       ·subst c11
        have H1 : ((chunk_lay.f l0 x18_2).bind fun t540 => (if x5_2 = (-1) then (chunk_Best.l0 k2 l0 a1 x18_2 (t540.length : Int) (wrap64 (x18_2 + 1))) else (if (t540.length : Int) < x6_2 then (chunk_Best.l0 k2 l0 a1 x18_2 (t540.length : Int) (wrap64 (x18_2 + 1))) else (chunk_Best.l0 k2 l0 a1 x5_2 x6_2 (wrap64 (x18_2 + 1)))))) = some r := by rw [if_pos rfl] at H; exact H
        clear H; have H := H1; clear H1; replace H := Option.bind_eq_some_iff.mp H; obtain ⟨t540, A120, H⟩ := H; (try dsimp only at H); have A12 := Aside0.mk A120; clear A120
        by_cases c13 : x5_2 = (-1)
        ·rw [if_pos c13] at H; have c13b0 : (x5_2 == (-1)) = true := beq_iff_eq.mpr c13; have c13b1 : (x5_2 != (-1)) = false := bne_eq_false_iff_eq.mpr c13; clear c13; have H' := Aside0.mk H; clear H
         go_wp2_with (first | (go_at_call 15; (with_reducible refine (chunk_of.calls x18_2 a1 true _ A10.out).mono ?_); rintro e w' ⟨rfl, ⟨nd, rfl⟩⟩) | (go_at_call 17; (with_reducible refine (chunk_lay.calls _ _ l0 x18_2 t540 _ ?side1 ?side2 A12.out).mono ?_); (case side1 => exact CU ((Kd.C_below HR0.out (BU HB.out)))); (case side2 => exact HC0.out); rintro e w14 ⟨v541, rfl, ho0, hb⟩; have HO542 := Aside0.mk (Kd.R_lower ho0 (below_size (BU HB.out))); replace HB := Aside0.mk (below_step (BU HB.out) hb); clear hb ho0; obtain ⟨Ao15, co15, eo15⟩ := Kd.R_slice HO542.out; subst eo15))
         go_roundg k2
         case measure => have := HJ2.out; have := HK2.out; omega
         case rel => exact ⟨(x18_2), ((t540.length : Int)), (wrap64 (x18_2 + 1)), EB, EB, EB, H', ⟨by have := HJ2.out; have := HK2.out; omega⟩, ⟨BU HB.out⟩⟩
        ·rw [if_neg c13] at H; have c13b0 : (x5_2 == (-1)) = false := beq_eq_false_iff_ne.mpr c13; have c13b1 : (x5_2 != (-1)) = true := bne_iff_ne.mpr c13
         by_cases c16 : (t540.length : Int) < x6_2
         ·rw [if_pos c16] at H; have c16b0 := decide_eq_true c16; clear c16; have H' := Aside0.mk H; clear H
          go_wp2_with (first | (go_at_call 15; (with_reducible refine (chunk_of.calls x18_2 a1 true _ A10.out).mono ?_); rintro e w' ⟨rfl, ⟨nd, rfl⟩⟩) | (go_at_call 17; (with_reducible refine (chunk_lay.calls _ _ l0 x18_2 t540 _ ?side1 ?side2 A12.out).mono ?_); (case side1 => exact CU ((Kd.C_below HR0.out (BU HB.out)))); (case side2 => exact HC0.out); rintro e w17 ⟨v541, rfl, ho0, hb⟩; have HO542 := Aside0.mk (Kd.R_lower ho0 (below_size (BU HB.out))); replace HB := Aside0.mk (below_step (BU HB.out) hb); clear hb ho0; obtain ⟨Ao18, co18, eo18⟩ := Kd.R_slice HO542.out; subst eo18))
          go_roundg k2
          case measure => have := HJ2.out; have := HK2.out; omega
          case rel => exact ⟨(x18_2), ((t540.length : Int)), (wrap64 (x18_2 + 1)), EB, EB, EB, H', ⟨by have := HJ2.out; have := HK2.out; omega⟩, ⟨BU HB.out⟩⟩
         ·rw [if_neg c16] at H; have c16b0 := decide_eq_false c16; clear c16; have H' := Aside0.mk H; clear H
          go_wp2_with (first | (go_at_call 15; (with_reducible refine (chunk_of.calls x18_2 a1 true _ A10.out).mono ?_); rintro e w' ⟨rfl, ⟨nd, rfl⟩⟩) | (go_at_call 17; (with_reducible refine (chunk_lay.calls _ _ l0 x18_2 t540 _ ?side1 ?side2 A12.out).mono ?_); (case side1 => exact CU ((Kd.C_below HR0.out (BU HB.out)))); (case side2 => exact HC0.out); rintro e w19 ⟨v541, rfl, ho0, hb⟩; have HO542 := Aside0.mk (Kd.R_lower ho0 (below_size (BU HB.out))); replace HB := Aside0.mk (below_step (BU HB.out) hb); clear hb ho0; obtain ⟨Ao20, co20, eo20⟩ := Kd.R_slice HO542.out; subst eo20))
          go_roundg k2
          case measure => have := HJ2.out; have := HK2.out; omega
          case rel => exact ⟨(x5_2), (x6_2), (wrap64 (x18_2 + 1)), EB, EB, EB, H', ⟨by have := HJ2.out; have := HK2.out; omega⟩, ⟨BU HB.out⟩⟩
       ·replace c11 := Bool.eq_false_iff.mpr c11; subst c11
        have H1 : (chunk_Best.l0 k2 l0 a1 x5_2 x6_2 (wrap64 (x18_2 + 1))) = some r := by rw [if_neg (show ¬ (false = true) by decide)] at H; exact H
        clear H; have H := H1; clear H1; have H' := Aside0.mk H; clear H
        go_wp2_with (first | (go_at_call 15; (with_reducible refine (chunk_of.calls x18_2 a1 false _ A10.out).mono ?_); rintro e w' ⟨rfl, ⟨nd, rfl⟩⟩))
        go_roundg k2
        case measure => have := HJ2.out; have := HK2.out; omega
        case rel => exact ⟨(x5_2), (x6_2), (wrap64 (x18_2 + 1)), EB, EB, EB, H', ⟨by have := HJ2.out; have := HK2.out; omega⟩, ⟨BU HB.out⟩⟩
      ·rw [if_neg c9] at H; have c9b0 := decide_eq_false c9; clear c9; obtain rfl := Option.some.inj H; go_wp2
       go_ret
       exact ⟨ER, BU HB.out⟩

/-! ### chunk_Put: function 8 -/
def chunk_Put.j0 : Nat → List (S40) → Int → Int → Bool → Option (List Int × Int)
 | 0, _, _, _, _ => none
 | k + 1, x0, x1, x2, x21 => if x21 = true then (some (([] : List Int), 1)) else ((chunk_check.f k x0 x1).bind fun t545 => (if t545 = 0 then (if x2 = (-1) then ((chunk_Best.f k x0 x1).bind fun t546 => ((chunk_lay.f x0 t546).bind fun t547 => (some (t547, 0)))) else ((chunk_lay.f x0 x2).bind fun t550 => (some (t550, 0)))) else (some (([] : List Int), t545))))
def chunk_Put.f (k : Nat) (l0 : List (S40)) (a1 : Int) (a2 : Int) : Option (List Int × Int) := (chunk_isKind.f a1).bind fun t543 => (if t543 = true then (if a2 = (-1) then (chunk_Put.j0 k l0 a1 a2 false) else ((chunk_of.f a2 a1).bind fun t544 => (chunk_Put.j0 k l0 a1 a2 (!t544)))) else (chunk_Put.j0 k l0 a1 a2 true))
set_option maxHeartbeats 8000000 in
set_option maxRecDepth 100000 in
theorem chunk_Put.calls (k : Nat) (A0 : Option Addr) (c0 : Nat) (l0 : List (S40)) (a1 : Int) (a2 : Int) (r1 : List Int) (r2 : Int) (w : World) (hr0 : Kd.C k40 w A0 l0.length l0) (hc0 : l0.length ≤ c0) (h : chunk_Put.f k l0 a1 a2 = some (r1, r2)) :
  Calls Tryz.prog 8 #[.slice A0 l0.length c0, .int .i64 a1, .int .i64 a2] w fun e w' => ∃ v0_ : Value, e = .returned (.tuple #[v0_, .int .i64 r2]) ∧ Kd.R (Kd.int .u8) 5 w' w.heap.size (fun _ => True) v0_ r1 ∧ Below w.heap.size w w' := by
 have HR0 := Aside0.mk hr0; have HC0 := Aside0.mk hc0; clear hr0 hc0; have HB := Aside0.mk (Below.refl w.heap.size w); have H : ((chunk_isKind.f a1).bind fun t543 => (if t543 = true then (if a2 = (-1) then (chunk_Put.j0 k l0 a1 a2 false) else ((chunk_of.f a2 a1).bind fun t544 => (chunk_Put.j0 k l0 a1 a2 (!t544)))) else (chunk_Put.j0 k l0 a1 a2 true))) = some (r1, r2) := h; clear h; have HC4 := Aside0.mk H; clear H; go_enter Tryz.func8, Tryz.ntmps8
 go_upto_region 1 with (fail)
 go_cut [21] (fun v21 wc => ∃ (kq : Nat) (x21_3 : Bool), v21 = .bool x21_3 ∧ Aside0 (chunk_Put.j0 kq l0 a1 a2 x21_3 = some (r1, r2)) ∧ Aside0 (kq ≤ k) ∧ Aside0 (Below w.heap.size w wc))
 case first =>
  have H := HC4.out; clear HC4; replace H := Option.bind_eq_some_iff.mp H; obtain ⟨t543, A50, H⟩ := H; (try dsimp only at H); have A5 := Aside0.mk A50; clear A50
  by_cases c6 : t543 = true
  ·subst c6
   have H1 : (if a2 = (-1) then (chunk_Put.j0 k l0 a1 a2 false) else ((chunk_of.f a2 a1).bind fun t544 => (chunk_Put.j0 k l0 a1 a2 (!t544)))) = some (r1, r2) := by rw [if_pos rfl] at H; exact H
   clear H; have H := H1; clear H1
   by_cases c7 : a2 = (-1)
   ·rw [if_pos c7] at H; have c7b0 : (a2 == (-1)) = true := beq_iff_eq.mpr c7; have c7b1 : (a2 != (-1)) = false := bne_eq_false_iff_eq.mpr c7; clear c7
    (first | rw [c7b0] | (simp only [i64_w, i32_w]; rw [c7b0]) | skip)
    have H' := Aside0.mk H; clear H
    go_wp2_with (first | (go_at_call 14; (with_reducible refine (chunk_isKind.calls a1 true _ A5.out).mono ?_); rintro e w' ⟨rfl, ⟨nd, rfl⟩⟩))
    go_meet
    case rel => exact ⟨_, (false), EB, H', ⟨by first | omega | exact Nat.le_refl _⟩, ⟨BU HB.out⟩⟩
   ·rw [if_neg c7] at H; have c7b0 : (a2 == (-1)) = false := beq_eq_false_iff_ne.mpr c7; have c7b1 : (a2 != (-1)) = true := bne_iff_ne.mpr c7
    (first | rw [c7b0] | (simp only [i64_w, i32_w]; rw [c7b0]) | skip)
    replace H := Option.bind_eq_some_iff.mp H; obtain ⟨t544, A80, H⟩ := H; (try dsimp only at H); have A8 := Aside0.mk A80; clear A80; have H' := Aside0.mk H; clear H
    go_wp2_with (first | (go_at_call 14; (with_reducible refine (chunk_isKind.calls a1 true _ A5.out).mono ?_); rintro e w' ⟨rfl, ⟨nd, rfl⟩⟩) | (go_at_call 15; (with_reducible refine (chunk_of.calls a2 a1 t544 _ A8.out).mono ?_); rintro e w' ⟨rfl, ⟨nd, rfl⟩⟩))
    go_meet
    case rel => exact ⟨_, (!t544), EB, H', ⟨by first | omega | exact Nat.le_refl _⟩, ⟨BU HB.out⟩⟩
  ·replace c6 := Bool.eq_false_iff.mpr c6; subst c6
   have H1 : (chunk_Put.j0 k l0 a1 a2 true) = some (r1, r2) := by rw [if_neg (show ¬ (false = true) by decide)] at H; exact H
   clear H; have H := H1; clear H1; have H' := Aside0.mk H; clear H
   go_wp2_with (first | (go_at_call 14; (with_reducible refine (chunk_isKind.calls a1 false _ A5.out).mono ?_); rintro e w' ⟨rfl, ⟨nd, rfl⟩⟩))
   go_meet
   case rel => exact ⟨_, (true), EB, H', ⟨by first | omega | exact Nat.le_refl _⟩, ⟨BU HB.out⟩⟩
 case rest =>
  clear HC4; (try clear c1); (try clear p2); (try clear c6); (try clear c7); (try clear c7b0); (try clear c7b1); (try clear c8); obtain ⟨kq, x21_3, rfl, HA, HJ3, HB⟩ := hcut
  cases kq with
  | zero => exact absurd HA.out (by simp [chunk_Put.j0])
  | succ kj3 =>
   have H := HA.out; clear HA; simp only [chunk_Put.j0] at H
   by_cases c9 : x21_3 = true
   ·subst c9
    have H1 : (some (([] : List Int), 1)) = some (r1, r2) := by rw [if_pos rfl] at H; exact H
    clear H; have H := H1; clear H1; simp only [Option.some.injEq, Prod.mk.injEq] at H; obtain ⟨rfl, rfl⟩ := H; go_wp2
    go_ret2
    exact ⟨_, ER, by first | exact Kd.R_nil _ _ _ _ _ | exact Kd.N_nil _ _ _ _ _ | exact Kd.V_nil _ _ _ _ _ | exact Kd.Q_nil _ _ _ _ _ | exact Kd.S_nil _ _ _ _ _, BU HB.out⟩
   ·replace c9 := Bool.eq_false_iff.mpr c9; subst c9
    have H1 : ((chunk_check.f kj3 l0 a1).bind fun t545 => (if t545 = 0 then (if a2 = (-1) then ((chunk_Best.f kj3 l0 a1).bind fun t546 => ((chunk_lay.f l0 t546).bind fun t547 => (some (t547, 0)))) else ((chunk_lay.f l0 a2).bind fun t550 => (some (t550, 0)))) else (some (([] : List Int), t545)))) = some (r1, r2) := by rw [if_neg (show ¬ (false = true) by decide)] at H; exact H
    clear H; have H := H1; clear H1; replace H := Option.bind_eq_some_iff.mp H; obtain ⟨t545, A100, H⟩ := H; (try dsimp only at H); have A10 := Aside0.mk A100; clear A100
    by_cases c11 : t545 = 0
    ·rw [if_pos c11] at H; have c11b0 : (t545 == 0) = true := beq_iff_eq.mpr c11; have c11b1 : (t545 != 0) = false := bne_eq_false_iff_eq.mpr c11; clear c11
     by_cases c12 : a2 = (-1)
     ·rw [if_pos c12] at H; have c12b0 : (a2 == (-1)) = true := beq_iff_eq.mpr c12; have c12b1 : (a2 != (-1)) = false := bne_eq_false_iff_eq.mpr c12; clear c12; replace H := Option.bind_eq_some_iff.mp H; obtain ⟨t546, A130, H⟩ := H; (try dsimp only at H); have A13 := Aside0.mk A130; clear A130; replace H := Option.bind_eq_some_iff.mp H; obtain ⟨t547, A140, H⟩ := H; replace H : (some (t547, 0)) = some (r1, r2) := H; have A14 := Aside0.mk A140; clear A140; simp only [Option.some.injEq, Prod.mk.injEq] at H; obtain ⟨rfl, rfl⟩ := H
      go_wp2_with (first | (go_at_call 16; (with_reducible refine (chunk_check.calls kj3 _ _ l0 a1 t545 _ ?side1 ?side2 A10.out).mono ?_); (case side1 => exact CU ((Kd.C_below HR0.out HB.out))); (case side2 => exact HC0.out); rintro e w15 ⟨rfl, hb⟩; replace HB := Aside0.mk (below_step (BU HB.out) hb); clear hb) | (go_at_call 9; (with_reducible refine (chunk_Best.calls kj3 _ _ l0 a1 t546 _ ?side1 ?side2 A13.out).mono ?_); (case side1 => exact CU ((Kd.C_below HR0.out HB.out))); (case side2 => exact HC0.out); rintro e w16 ⟨rfl, hb⟩; replace HB := Aside0.mk (below_step (BU HB.out) hb); clear hb) | (go_at_call 17; (with_reducible refine (chunk_lay.calls _ _ l0 t546 t547 _ ?side1 ?side2 A14.out).mono ?_); (case side1 => exact CU ((Kd.C_below HR0.out HB.out))); (case side2 => exact HC0.out); rintro e w17 ⟨v548, rfl, ho0, hb⟩; have HO549 := Aside0.mk (Kd.R_lower ho0 (below_size (BU HB.out))); replace HB := Aside0.mk (below_step (BU HB.out) hb); clear hb ho0))
      go_ret2
      exact ⟨_, ER, RU HO549.out, BU HB.out⟩
     ·rw [if_neg c12] at H; have c12b0 : (a2 == (-1)) = false := beq_eq_false_iff_ne.mpr c12; have c12b1 : (a2 != (-1)) = true := bne_iff_ne.mpr c12; replace H := Option.bind_eq_some_iff.mp H; obtain ⟨t550, A180, H⟩ := H; replace H : (some (t550, 0)) = some (r1, r2) := H; have A18 := Aside0.mk A180; clear A180; simp only [Option.some.injEq, Prod.mk.injEq] at H; obtain ⟨rfl, rfl⟩ := H
      go_wp2_with (first | (go_at_call 16; (with_reducible refine (chunk_check.calls kj3 _ _ l0 a1 t545 _ ?side1 ?side2 A10.out).mono ?_); (case side1 => exact CU ((Kd.C_below HR0.out HB.out))); (case side2 => exact HC0.out); rintro e w19 ⟨rfl, hb⟩; replace HB := Aside0.mk (below_step (BU HB.out) hb); clear hb) | (go_at_call 17; (with_reducible refine (chunk_lay.calls _ _ l0 a2 t550 _ ?side1 ?side2 A18.out).mono ?_); (case side1 => exact CU ((Kd.C_below HR0.out HB.out))); (case side2 => exact HC0.out); rintro e w20 ⟨v551, rfl, ho0, hb⟩; have HO552 := Aside0.mk (Kd.R_lower ho0 (below_size (BU HB.out))); replace HB := Aside0.mk (below_step (BU HB.out) hb); clear hb ho0))
      go_ret2
      exact ⟨_, ER, RU HO552.out, BU HB.out⟩
    ·rw [if_neg c11] at H; have c11b0 : (t545 == 0) = false := beq_eq_false_iff_ne.mpr c11; have c11b1 : (t545 != 0) = true := bne_iff_ne.mpr c11; simp only [Option.some.injEq, Prod.mk.injEq] at H; obtain ⟨rfl, rfl⟩ := H
     go_wp2_with (first | (go_at_call 16; (with_reducible refine (chunk_check.calls kj3 _ _ l0 a1 t545 _ ?side1 ?side2 A10.out).mono ?_); (case side1 => exact CU ((Kd.C_below HR0.out HB.out))); (case side2 => exact HC0.out); rintro e w21 ⟨rfl, hb⟩; replace HB := Aside0.mk (below_step (BU HB.out) hb); clear hb))
     go_ret2
     exact ⟨_, ER, by first | exact Kd.R_nil _ _ _ _ _ | exact Kd.N_nil _ _ _ _ _ | exact Kd.V_nil _ _ _ _ _ | exact Kd.Q_nil _ _ _ _ _ | exact Kd.S_nil _ _ _ _ _, BU HB.out⟩

/-! ### estreatlaw14_awake: function 7 -/
def estreatlaw14_awake.f (k : Nat)  : Option (Bool) := (chunk_Put.f k (([(⟨0, 0, (⟨#[]⟩ : ByteArray)⟩ : S40), (⟨1, 3, (⟨#[]⟩ : ByteArray)⟩ : S40)] : List (S40))) 1 0).bind fun bt558 => ((estreatref01_Same.f k bt558.1 (([1, 1, 0, 6] : List Int))).bind fun t565 => (if t565 = true then (some (bt558.2 == 0)) else (some false)))
set_option maxHeartbeats 8000000 in
set_option maxRecDepth 100000 in
theorem estreatlaw14_awake.calls (k : Nat)  (r : Bool) (w : World) (h : estreatlaw14_awake.f k  = some r) :
  Calls Tryz.prog 7 #[] w fun e w' => e = .returned (.bool r) ∧ Below w.heap.size w w' := by
 have hu40 := Tryz.underlying40; have HB := Aside0.mk (Below.refl w.heap.size w); have H : ((chunk_Put.f k (([(⟨0, 0, (⟨#[]⟩ : ByteArray)⟩ : S40), (⟨1, 3, (⟨#[]⟩ : ByteArray)⟩ : S40)] : List (S40))) 1 0).bind fun bt558 => ((estreatref01_Same.f k bt558.1 (([1, 1, 0, 6] : List Int))).bind fun t565 => (if t565 = true then (some (bt558.2 == 0)) else (some false)))) = some r := h; clear h
 obtain ⟨y555, hy555⟩ : ∃ y_ : List (S40), y_ = (([(⟨0, 0, (⟨#[]⟩ : ByteArray)⟩ : S40), (⟨1, 3, (⟨#[]⟩ : ByteArray)⟩ : S40)] : List (S40))) := ⟨_, rfl⟩
 replace H : ((chunk_Put.f k y555 1 0).bind fun bt558 => ((estreatref01_Same.f k bt558.1 (([1, 1, 0, 6] : List Int))).bind fun t565 => (if t565 = true then (some (bt558.2 == 0)) else (some false)))) = some r := HY hy555 H; have Ny555 := Aside0.mk hy555; clear hy555; replace H := Option.bind_eq_some_iff.mp H; obtain ⟨⟨t558, t559⟩, A10, H⟩ := H; (try dsimp only at H); have A1 := Aside0.mk A10; clear A10
 obtain ⟨y562, hy562⟩ : ∃ y_ : List Int, y_ = (([1, 1, 0, 6] : List Int)) := ⟨_, rfl⟩
 replace H : ((estreatref01_Same.f k t558 y562).bind fun t565 => (if t565 = true then (some (t559 == 0)) else (some false))) = some r := HY hy562 H; have Ny562 := Aside0.mk hy562; clear hy562; replace H := Option.bind_eq_some_iff.mp H; obtain ⟨t565, A20, H⟩ := H; (try dsimp only at H); have A2 := Aside0.mk A20; clear A20
 by_cases c3 : t565 = true
 ·subst c3
  have H1 : (some (t559 == 0)) = some r := by rw [if_pos rfl] at H; exact H
  clear H; have H := H1; clear H1; obtain rfl := Option.some.inj H; go_enter Tryz.func7, Tryz.ntmps7
  go_wp2_with (first | ((with_reducible refine gate_dst (N := 6) rfl ?_); refine Kd.R_lit k40 _ 40 ?hg (N := 6) ?hd (xs := ([(⟨0, 0, (⟨#[]⟩ : ByteArray)⟩ : S40), (⟨1, 3, (⟨#[]⟩ : ByteArray)⟩ : S40)] : List (S40))) (inner := [.int .i64 0, .int .i64 0, .string (⟨#[]⟩ : ByteArray), .int .i64 1, .int .i64 3, .string (⟨#[]⟩ : ByteArray)]) (ok := fun _ => True) (okp := fun _ => True) ?hr ?hp (fun _ hk => hk) trivial (Below.refl _ _) (Nat.le_refl _) (by simp) ?_; (case hd => rfl); (case hg => rfl); (case hr => first | (go_simp; done) | (go_simp; rfl)); (case hp => exact (Reps.c3 (show Kd.M k40 _ _ _ (⟨0, 0, (⟨#[]⟩ : ByteArray)⟩ : S40) [.int .i64 0, .int .i64 0, .string (⟨#[]⟩ : ByteArray)] from (k40_mkM _ _ _ (⟨0, 0, (⟨#[]⟩ : ByteArray)⟩ : S40) )) (Reps.c3 (show Kd.M k40 _ _ _ (⟨1, 3, (⟨#[]⟩ : ByteArray)⟩ : S40) [.int .i64 1, .int .i64 3, .string (⟨#[]⟩ : ByteArray)] from (k40_mkM _ _ _ (⟨1, 3, (⟨#[]⟩ : ByteArray)⟩ : S40) )) (Reps.none _ _)))); intro v556 w4 ho5 hb hg_ hnew_; clear hg_ hnew_; (first | rw [← Ny555.out] at ho5 | (simp only [Int.reduceToNat] at ho5; rw [← Ny555.out] at ho5)); have HO557 := Aside0.mk (Kd.R_lower ho5 (below_size (BU HB.out))); replace HB := Aside0.mk (below_step (BU HB.out) hb); clear hb ho5; obtain ⟨Ao6, co6, eo6⟩ := Kd.R_slice HO557.out; subst eo6) | (go_at_call 8; (with_reducible refine (chunk_Put.calls k _ _ y555 1 0 t558 t559 _ ?side1 ?side2 A1.out).mono ?_); (case side1 => exact CU ((Kd.R_reads' HO557.out).2.2)); (case side2 => exact (Kd.R_reads' HO557.out).2.1); rintro e w7 ⟨v560, rfl, ho0, hb⟩; replace HO557 := Aside0.mk (Kd.R_below (RU HO557.out) hb); have HO561 := Aside0.mk (Kd.R_lower ho0 (below_size (BU HB.out))); replace HB := Aside0.mk (below_step (BU HB.out) hb); clear hb ho0) | ((with_reducible refine gate_dst (N := 11) rfl ?_); refine Kd.R_lit (Kd.int .u8) _ 5 ?hg (N := 11) ?hd (xs := ([1, 1, 0, 6] : List Int)) (inner := [.int .u8 1, .int .u8 1, .int .u8 0, .int .u8 6]) (ok := fun _ => True) (okp := fun _ => True) ?hr ?hp (fun _ hk => hk) trivial (Below.refl _ _) (Nat.le_refl _) (by simp) ?_; (case hd => rfl); (case hg => rfl); (case hr => first | (go_simp; done) | (go_simp; rfl)); (case hp => exact (Reps.one (show Kd.M (Kd.int .u8) _ _ _ 1 [.int .u8 1] from rfl) (Reps.one (show Kd.M (Kd.int .u8) _ _ _ 1 [.int .u8 1] from rfl) (Reps.one (show Kd.M (Kd.int .u8) _ _ _ 0 [.int .u8 0] from rfl) (Reps.one (show Kd.M (Kd.int .u8) _ _ _ 6 [.int .u8 6] from rfl) (Reps.none _ _)))))); intro v563 w8 ho9 hb hg_ hnew_; clear hg_ hnew_; (first | rw [← Ny562.out] at ho9 | (simp only [Int.reduceToNat] at ho9; rw [← Ny562.out] at ho9)); replace HO557 := Aside0.mk (Kd.R_below (RU HO557.out) hb); have HO564 := Aside0.mk (Kd.R_lower (Kd.R_new' ho9 (Kd.R_lt (RU HO561.out))) (below_size (BU HB.out))); replace HO561 := Aside0.mk (Kd.R_elder' (RU HO561.out) (Kd.R_base ho9) hb); replace HB := Aside0.mk (below_step (BU HB.out) hb); clear hb ho9; obtain ⟨Ao10, co10, eo10⟩ := Kd.R_slice HO561.out; subst eo10; obtain ⟨Ao11, co11, eo11⟩ := Kd.R_slice HO564.out; subst eo11) | (go_at_call 13; (with_reducible refine (estreatref01_Same.calls k _ _ t558 _ _ y562 true _ ?side1 ?side2 ?side3 ?side4 A2.out).mono ?_); (case side1 => exact CU ((Kd.R_reads' HO561.out).2.2)); (case side2 => exact (Kd.R_reads' HO561.out).2.1); (case side3 => exact CU ((Kd.R_reads' HO564.out).2.2)); (case side4 => exact (Kd.R_reads' HO564.out).2.1); rintro e w' ⟨rfl, ⟨nd, rfl⟩⟩))
  go_ret
  exact ⟨ER, BU HB.out⟩
 ·replace c3 := Bool.eq_false_iff.mpr c3; subst c3
  have H1 : (some false) = some r := by rw [if_neg (show ¬ (false = true) by decide)] at H; exact H
  clear H; have H := H1; clear H1; obtain rfl := Option.some.inj H; go_enter Tryz.func7, Tryz.ntmps7
  go_wp2_with (first | ((with_reducible refine gate_dst (N := 6) rfl ?_); refine Kd.R_lit k40 _ 40 ?hg (N := 6) ?hd (xs := ([(⟨0, 0, (⟨#[]⟩ : ByteArray)⟩ : S40), (⟨1, 3, (⟨#[]⟩ : ByteArray)⟩ : S40)] : List (S40))) (inner := [.int .i64 0, .int .i64 0, .string (⟨#[]⟩ : ByteArray), .int .i64 1, .int .i64 3, .string (⟨#[]⟩ : ByteArray)]) (ok := fun _ => True) (okp := fun _ => True) ?hr ?hp (fun _ hk => hk) trivial (Below.refl _ _) (Nat.le_refl _) (by simp) ?_; (case hd => rfl); (case hg => rfl); (case hr => first | (go_simp; done) | (go_simp; rfl)); (case hp => exact (Reps.c3 (show Kd.M k40 _ _ _ (⟨0, 0, (⟨#[]⟩ : ByteArray)⟩ : S40) [.int .i64 0, .int .i64 0, .string (⟨#[]⟩ : ByteArray)] from (k40_mkM _ _ _ (⟨0, 0, (⟨#[]⟩ : ByteArray)⟩ : S40) )) (Reps.c3 (show Kd.M k40 _ _ _ (⟨1, 3, (⟨#[]⟩ : ByteArray)⟩ : S40) [.int .i64 1, .int .i64 3, .string (⟨#[]⟩ : ByteArray)] from (k40_mkM _ _ _ (⟨1, 3, (⟨#[]⟩ : ByteArray)⟩ : S40) )) (Reps.none _ _)))); intro v556 w12 ho13 hb hg_ hnew_; clear hg_ hnew_; (first | rw [← Ny555.out] at ho13 | (simp only [Int.reduceToNat] at ho13; rw [← Ny555.out] at ho13)); have HO557 := Aside0.mk (Kd.R_lower ho13 (below_size (BU HB.out))); replace HB := Aside0.mk (below_step (BU HB.out) hb); clear hb ho13; obtain ⟨Ao14, co14, eo14⟩ := Kd.R_slice HO557.out; subst eo14) | (go_at_call 8; (with_reducible refine (chunk_Put.calls k _ _ y555 1 0 t558 t559 _ ?side1 ?side2 A1.out).mono ?_); (case side1 => exact CU ((Kd.R_reads' HO557.out).2.2)); (case side2 => exact (Kd.R_reads' HO557.out).2.1); rintro e w15 ⟨v560, rfl, ho0, hb⟩; replace HO557 := Aside0.mk (Kd.R_below (RU HO557.out) hb); have HO561 := Aside0.mk (Kd.R_lower ho0 (below_size (BU HB.out))); replace HB := Aside0.mk (below_step (BU HB.out) hb); clear hb ho0) | ((with_reducible refine gate_dst (N := 11) rfl ?_); refine Kd.R_lit (Kd.int .u8) _ 5 ?hg (N := 11) ?hd (xs := ([1, 1, 0, 6] : List Int)) (inner := [.int .u8 1, .int .u8 1, .int .u8 0, .int .u8 6]) (ok := fun _ => True) (okp := fun _ => True) ?hr ?hp (fun _ hk => hk) trivial (Below.refl _ _) (Nat.le_refl _) (by simp) ?_; (case hd => rfl); (case hg => rfl); (case hr => first | (go_simp; done) | (go_simp; rfl)); (case hp => exact (Reps.one (show Kd.M (Kd.int .u8) _ _ _ 1 [.int .u8 1] from rfl) (Reps.one (show Kd.M (Kd.int .u8) _ _ _ 1 [.int .u8 1] from rfl) (Reps.one (show Kd.M (Kd.int .u8) _ _ _ 0 [.int .u8 0] from rfl) (Reps.one (show Kd.M (Kd.int .u8) _ _ _ 6 [.int .u8 6] from rfl) (Reps.none _ _)))))); intro v563 w16 ho17 hb hg_ hnew_; clear hg_ hnew_; (first | rw [← Ny562.out] at ho17 | (simp only [Int.reduceToNat] at ho17; rw [← Ny562.out] at ho17)); replace HO557 := Aside0.mk (Kd.R_below (RU HO557.out) hb); have HO564 := Aside0.mk (Kd.R_lower (Kd.R_new' ho17 (Kd.R_lt (RU HO561.out))) (below_size (BU HB.out))); replace HO561 := Aside0.mk (Kd.R_elder' (RU HO561.out) (Kd.R_base ho17) hb); replace HB := Aside0.mk (below_step (BU HB.out) hb); clear hb ho17; obtain ⟨Ao18, co18, eo18⟩ := Kd.R_slice HO561.out; subst eo18; obtain ⟨Ao19, co19, eo19⟩ := Kd.R_slice HO564.out; subst eo19) | (go_at_call 13; (with_reducible refine (estreatref01_Same.calls k _ _ t558 _ _ y562 false _ ?side1 ?side2 ?side3 ?side4 A2.out).mono ?_); (case side1 => exact CU ((Kd.R_reads' HO561.out).2.2)); (case side2 => exact (Kd.R_reads' HO561.out).2.1); (case side3 => exact CU ((Kd.R_reads' HO564.out).2.2)); (case side4 => exact (Kd.R_reads' HO564.out).2.1); rintro e w' ⟨rfl, ⟨nd, rfl⟩⟩))
  go_ret
  exact ⟨ER, BU HB.out⟩

-- NOT PRINTED: function 34 (bitmap_Read)

-- NOT PRINTED: function 19 (chunk_front)

end Go.Proofs.YtehbkhddbdgbcaaGreatDoor.PChunkBack
