/- WRITTEN BY A PROGRAM of this session (the turned printer's blocks of the last functions). -/
import Derived.Test.YtehbkhddbdgbcaaGreatDoorPChunkBackx22
namespace Go.Proofs.YtehbkhddbdgbcaaGreatDoor.PChunkBack
open Go.RowKit Go.Proofs.YtehbkhddbdgbcaaGreatDoorW.PrintWords Go.Proofs.YtehbkhddbdgbcaaGreatDoorW.PrintLast Go.Proofs.YtehbkhddbdgbcaaGreatDoorW.PrintMore
attribute [local go_sem] max2_int min2_int max_two min_two max_three min_three max_four min_four   -- for this text's walks alone
set_option linter.unusedVariables false
set_option linter.unusedSimpArgs false

/-! ### chunk_Way: function 12 -/
def chunk_Way.f (l0 : List Int) : Option (Int) := if (l0.length : Int) < 2 then (some (-1)) else (if 0 < (l0.length : Int) then (if (rd l0 0) = 0 then (if 1 < (l0.length : Int) then (some (wrap64 (rd l0 1))) else (none)) else (some (-1))) else (none))
set_option maxHeartbeats 8000000 in
set_option maxRecDepth 100000 in
theorem chunk_Way.calls (A0 : Option Addr) (c0 : Nat) (l0 : List Int) (r : Int) (w : World) (hr0 : Kd.C (Kd.int .u8) w A0 l0.length l0) (hc0 : l0.length ≤ c0) (h : chunk_Way.f l0 = some r) :
  Calls Tryz.prog 12 #[.slice A0 l0.length c0] w fun e w' => e = .returned (.int .i64 r) ∧ Drawn0 w w' := by
 have HR0 := Aside0.mk hr0; have HC0 := Aside0.mk hc0; clear hr0 hc0; have H : (if (l0.length : Int) < 2 then (some (-1)) else (if 0 < (l0.length : Int) then (if (rd l0 0) = 0 then (if 1 < (l0.length : Int) then (some (wrap64 (rd l0 1))) else (none)) else (some (-1))) else (none))) = some r := h; clear h
 by_cases c2 : (l0.length : Int) < 2
 ·rw [if_pos c2] at H; have c2b0 := decide_eq_true c2; have c2b1 : decide (l0.length < 2) = true := decide_eq_true (by omega); clear c2; obtain rfl := Option.some.inj H; go_enter Tryz.func12, Tryz.ntmps12; go_wp2
  go_ret
  exact ⟨EB, DR⟩
 ·rw [if_neg c2] at H; have c2b0 := decide_eq_false c2; have c2b1 : decide (l0.length < 2) = false := decide_eq_false (by omega); clear c2
  by_cases c3 : 0 < (l0.length : Int)
  ·rw [if_pos c3] at H; have c3b0 := decide_eq_true c3; have c3b1 : decide (0 < l0.length) = true := decide_eq_true (by omega); clear c3
   by_cases c4 : (rd l0 0) = 0
   ·rw [if_pos c4] at H; have c4b0 : ((rd l0 0) == 0) = true := beq_iff_eq.mpr c4; have c4b1 : ((rd l0 0) != 0) = false := bne_eq_false_iff_eq.mpr c4; clear c4
    by_cases c5 : 1 < (l0.length : Int)
    ·rw [if_pos c5] at H; have c5b0 := decide_eq_true c5; have c5b1 : decide (1 < l0.length) = true := decide_eq_true (by omega); clear c5; obtain rfl := Option.some.inj H
     have p652 : 0 ≤ (0 : Int) := (by omega)
     have q652 : 0 < (l0.length : Int) := OD; obtain ⟨ad652, e652, hx652_0⟩ := Kd.at_int HR0.out 0 p652 q652
     cases e652
     have qi652 : (0 < l0.length) = True := eq_true (by omega)
     (try rw [show ((0 : Int)).toNat = 0 from rfl] at hx652_0)
     (try rw [Addr.add_zero'] at hx652_0)
     replace p652 := eq_true p652; replace q652 := eq_true q652
     have p653 : 0 ≤ (1 : Int) := (by omega)
     have q653 : 1 < (l0.length : Int) := OD; obtain ⟨ad653, e653, hx653_0⟩ := Kd.at_int HR0.out 1 p653 q653
     obtain rfl : ad652 = ad653 := (by injection e653)
     (try simp only [show (1 : Int).toNat = 1 from rfl, Nat.reduceMul, Nat.reduceEqDiff, Go.Addr.add, ↓reduceIte] at hx653_0)
     have qi653 : (1 < l0.length) = True := eq_true (by omega)
     (try rw [show ((1 : Int)).toNat = 1 from rfl] at hx653_0)
     replace p653 := eq_true p653; replace q653 := eq_true q653; go_enter Tryz.func12, Tryz.ntmps12; go_wp2
     go_ret
     exact ⟨EB, DR⟩
    ·rw [if_neg c5] at H; exact absurd H (by simp)
   ·rw [if_neg c4] at H; have c4b0 : ((rd l0 0) == 0) = false := beq_eq_false_iff_ne.mpr c4; have c4b1 : ((rd l0 0) != 0) = true := bne_iff_ne.mpr c4; obtain rfl := Option.some.inj H
    have p652 : 0 ≤ (0 : Int) := (by omega)
    have q652 : 0 < (l0.length : Int) := OD; obtain ⟨ad652, e652, hx652_0⟩ := Kd.at_int HR0.out 0 p652 q652
    cases e652
    have qi652 : (0 < l0.length) = True := eq_true (by omega)
    (try rw [show ((0 : Int)).toNat = 0 from rfl] at hx652_0)
    (try rw [Addr.add_zero'] at hx652_0)
    replace p652 := eq_true p652; replace q652 := eq_true q652; go_enter Tryz.func12, Tryz.ntmps12; go_wp2
    go_ret
    exact ⟨EB, DR⟩
  ·rw [if_neg c3] at H; exact absurd H (by simp)

/-! ### estreatlaw14_ChunkAgain: function 5 -/
mutual
def estreatlaw14_ChunkAgain.j0 : Nat → List Int → Int → Int → Bool → Option (Bool)
 | 0, _, _, _, _ => none
 | k + 1, x0, x1, x2, x25 => if x25 = true then ((estreatlaw14_awake.f k).bind fun t654 => (some t654)) else ((chunk_Get.f k x0 x1 x2).bind fun bt655 => (if bt655.2 = 0 then ((chunk_Way.f x0).bind fun t660 => (if t660 ≥ 0 then ((chunk_Put.f k bt655.1 x1 t660).bind fun bt661 => (if bt661.2 = 0 then ((estreatref01_Same.f k bt661.1 x0).bind fun t665 => (if t665 = true then ((estreatlaw14_awake.f k).bind fun t666 => (some t666)) else (some false))) else (some false))) else (estreatlaw14_ChunkAgain.l0 k x0 x1 bt655.1 0))) else (if (bt655.1.length : Int) = 0 then ((estreatlaw14_awake.f k).bind fun t659 => (some t659)) else (some false))))
def estreatlaw14_ChunkAgain.l0 : Nat → List Int → Int → List (S40) → Int → Option (Bool)
 | 0, _, _, _, _ => none
 | k + 1, x0, x1, x7, x12 => if x12 < 6 then ((chunk_Put.f k x7 x1 x12).bind fun bt667 => (if bt667.2 = 0 then ((estreatref01_Same.f k bt667.1 x0).bind fun t671 => (if t671 = true then ((estreatlaw14_awake.f k).bind fun t672 => (some t672)) else (estreatlaw14_ChunkAgain.l0 k x0 x1 x7 (wrap64 (x12 + 1))))) else (estreatlaw14_ChunkAgain.l0 k x0 x1 x7 (wrap64 (x12 + 1))))) else (some false)
end
def estreatlaw14_ChunkAgain.f (k : Nat) (l0 : List Int) (a1 : Int) (a2 : Int) : Option (Bool) := if (l0.length : Int) > 800 then (estreatlaw14_ChunkAgain.j0 k l0 a1 a2 true) else (if a2 > 300 then (estreatlaw14_ChunkAgain.j0 k l0 a1 a2 (decide (a2 ≤ 65536))) else (estreatlaw14_ChunkAgain.j0 k l0 a1 a2 false))
set_option maxHeartbeats 8000000 in
set_option maxRecDepth 100000 in
theorem estreatlaw14_ChunkAgain.calls (k : Nat) (A0 : Option Addr) (c0 : Nat) (l0 : List Int) (a1 : Int) (a2 : Int) (r : Bool) (w : World) (hr0 : Kd.C (Kd.int .u8) w A0 l0.length l0) (hc0 : l0.length ≤ c0) (hG : HG w) (h : estreatlaw14_ChunkAgain.f k l0 a1 a2 = some r) (hr : r = true) :
  Calls Tryz.prog 5 #[.slice A0 l0.length c0, .int .i64 a1, .int .i64 a2] w fun e w' => e = .returned (.bool r) ∧ Below w.heap.size w w' := by
 have HR0 := Aside0.mk hr0; have HC0 := Aside0.mk hc0; clear hr0 hc0; have HB := Aside0.mk (Below.refl w.heap.size w); have H : (if (l0.length : Int) > 800 then (estreatlaw14_ChunkAgain.j0 k l0 a1 a2 true) else (if a2 > 300 then (estreatlaw14_ChunkAgain.j0 k l0 a1 a2 (decide (a2 ≤ 65536))) else (estreatlaw14_ChunkAgain.j0 k l0 a1 a2 false))) = some r := h; clear h; have HC4 := Aside0.mk H; clear H; go_enter Tryz.func5, Tryz.ntmps5
 go_upto_region 1 with (fail)
 go_cut [25] (fun v25 wc => ∃ (kq : Nat) (x25_3 : Bool), v25 = .bool x25_3 ∧ Aside0 (estreatlaw14_ChunkAgain.j0 kq l0 a1 a2 x25_3 = some r) ∧ Aside0 (kq ≤ k) ∧ Aside0 (Below w.heap.size w wc))
 case first =>
  have H := HC4.out; clear HC4
  by_cases c5 : (l0.length : Int) > 800
  ·rw [if_pos c5] at H; have c5b0 : decide (800 < (l0.length : Int)) = true := decide_eq_true c5; have c5b1 : decide (800 < l0.length) = true := decide_eq_true (by omega); clear c5
   (first | rw [c5b0] | (simp only [i64_w, i32_w]; rw [c5b0]) | skip)
   have H' := Aside0.mk H; clear H; go_wp2; go_meet
   case rel => exact ⟨_, (true), EB, H', ⟨by first | omega | exact Nat.le_refl _⟩, ⟨BU HB.out⟩⟩
  ·rw [if_neg c5] at H; have c5b0 : decide (800 < (l0.length : Int)) = false := decide_eq_false c5; have c5b1 : decide (800 < l0.length) = false := decide_eq_false (by omega); clear c5
   (first | rw [c5b0] | (simp only [i64_w, i32_w]; rw [c5b0]) | skip)
   by_cases c6 : a2 > 300
   ·rw [if_pos c6] at H; have c6b0 : decide (300 < a2) = true := decide_eq_true c6; clear c6; have H' := Aside0.mk H; clear H; go_wp2; go_meet
    case rel => exact ⟨_, (decide (a2 ≤ 65536)), EB, H', ⟨by first | omega | exact Nat.le_refl _⟩, ⟨BU HB.out⟩⟩
   ·rw [if_neg c6] at H; have c6b0 : decide (300 < a2) = false := decide_eq_false c6; clear c6; have H' := Aside0.mk H; clear H; go_wp2; go_meet
    case rel => exact ⟨_, (false), EB, H', ⟨by first | omega | exact Nat.le_refl _⟩, ⟨BU HB.out⟩⟩
 case rest =>
  clear HC4; (try clear p2); (try clear c5); (try clear c5b0); (try clear c5b1); (try clear c6); (try clear c6b0); obtain ⟨kq, x25_3, rfl, HA, HJ3, HB⟩ := hcut
  cases kq with
  | zero => exact absurd HA.out (by simp [estreatlaw14_ChunkAgain.j0])
  | succ kj3 =>
   have H := HA.out; clear HA; simp only [estreatlaw14_ChunkAgain.j0] at H
   by_cases c7 : x25_3 = true
   ·subst c7
    have H1 : ((estreatlaw14_awake.f kj3).bind fun t654 => (some t654)) = some r := by rw [if_pos rfl] at H; exact H
    clear H; have H := H1; clear H1; replace H := Option.bind_eq_some_iff.mp H; obtain ⟨t654, A80, H⟩ := H; replace H : (some t654) = some r := H; have A8 := Aside0.mk A80; clear A80; obtain rfl := Option.some.inj H
    go_wp2_with (first | (go_at_call 7; (with_reducible refine (estreatlaw14_awake.calls kj3  t654 _ A8.out).mono ?_); rintro e w9 ⟨rfl, hb⟩; replace HB := Aside0.mk (below_step (BU HB.out) hb); clear hb))
    go_ret
    exact ⟨ER, BU HB.out⟩
   ·replace c7 := Bool.eq_false_iff.mpr c7; subst c7
    have H1 : ((chunk_Get.f kj3 l0 a1 a2).bind fun bt655 => (if bt655.2 = 0 then ((chunk_Way.f l0).bind fun t660 => (if t660 ≥ 0 then ((chunk_Put.f kj3 bt655.1 a1 t660).bind fun bt661 => (if bt661.2 = 0 then ((estreatref01_Same.f kj3 bt661.1 l0).bind fun t665 => (if t665 = true then ((estreatlaw14_awake.f kj3).bind fun t666 => (some t666)) else (some false))) else (some false))) else (estreatlaw14_ChunkAgain.l0 kj3 l0 a1 bt655.1 0))) else (if (bt655.1.length : Int) = 0 then ((estreatlaw14_awake.f kj3).bind fun t659 => (some t659)) else (some false)))) = some r := by rw [if_neg (show ¬ (false = true) by decide)] at H; exact H
    clear H; have H := H1; clear H1; replace H := Option.bind_eq_some_iff.mp H; obtain ⟨⟨t655, t656⟩, A100, H⟩ := H; (try dsimp only at H); have A10 := Aside0.mk A100; clear A100
    by_cases c11 : t656 = 0
    ·rw [if_pos c11] at H; have c11b0 : (t656 == 0) = true := beq_iff_eq.mpr c11; have c11b1 : (t656 != 0) = false := bne_eq_false_iff_eq.mpr c11; clear c11; replace H := Option.bind_eq_some_iff.mp H; obtain ⟨t660, A120, H⟩ := H; (try dsimp only at H); have A12 := Aside0.mk A120; clear A120
     by_cases c13 : t660 ≥ 0
     ·rw [if_pos c13] at H; have c13b0 : decide (0 ≤ t660) = true := decide_eq_true c13; clear c13; replace H := Option.bind_eq_some_iff.mp H; obtain ⟨⟨t661, t662⟩, A140, H⟩ := H; (try dsimp only at H); have A14 := Aside0.mk A140; clear A140
      by_cases c15 : t662 = 0
      ·rw [if_pos c15] at H; have c15b0 : (t662 == 0) = true := beq_iff_eq.mpr c15; have c15b1 : (t662 != 0) = false := bne_eq_false_iff_eq.mpr c15; clear c15; replace H := Option.bind_eq_some_iff.mp H; obtain ⟨t665, A160, H⟩ := H; (try dsimp only at H); have A16 := Aside0.mk A160; clear A160
       by_cases c17 : t665 = true
       ·subst c17
        have H1 : ((estreatlaw14_awake.f kj3).bind fun t666 => (some t666)) = some r := by rw [if_pos rfl] at H; exact H
        clear H; have H := H1; clear H1; replace H := Option.bind_eq_some_iff.mp H; obtain ⟨t666, A180, H⟩ := H; replace H : (some t666) = some r := H; have A18 := Aside0.mk A180; clear A180; obtain rfl := Option.some.inj H
        go_wp2_with (first | (go_at_call 10; (with_reducible refine (chunk_Get.calls kj3 _ _ l0 a1 a2 t655 t656 _ ?side1 ?side2 (HG.below (BU HB.out) hG) A10.out).mono ?_); (case side1 => exact CU ((Kd.C_below HR0.out HB.out))); (case side2 => exact HC0.out); rintro e w19 ⟨v657, rfl, ho0, hb⟩; have HO658 := Aside0.mk (Kd.R_lower ho0 (below_size (BU HB.out))); replace HB := Aside0.mk (below_step (BU HB.out) hb); clear hb ho0) | (go_at_call 12; (with_reducible refine (chunk_Way.calls _ _ l0 t660 _ ?side1 ?side2 A12.out).mono ?_); (case side1 => exact CU ((Kd.C_below HR0.out HB.out))); (case side2 => exact HC0.out); rintro e w' ⟨rfl, ⟨nd, rfl⟩⟩; obtain ⟨Ao20, co20, eo20⟩ := Kd.R_slice HO658.out; subst eo20) | (go_at_call 8; (with_reducible refine (chunk_Put.calls kj3 _ _ t655 a1 t660 t661 t662 _ ?side1 ?side2 A14.out).mono ?_); (case side1 => exact CU ((Kd.R_reads' HO658.out).2.2)); (case side2 => exact (Kd.R_reads' HO658.out).2.1); rintro e w21 ⟨v663, rfl, ho0, hb⟩; replace HO658 := Aside0.mk (Kd.R_below (RU HO658.out) hb); have HO664 := Aside0.mk (Kd.R_lower ho0 (below_size (BU HB.out))); replace HB := Aside0.mk (below_step (BU HB.out) hb); clear hb ho0; obtain ⟨Ao22, co22, eo22⟩ := Kd.R_slice HO664.out; subst eo22) | (go_at_call 13; (with_reducible refine (estreatref01_Same.calls kj3 _ _ t661 _ _ l0 true _ ?side1 ?side2 ?side3 ?side4 A16.out).mono ?_); (case side1 => exact CU ((Kd.R_reads' HO664.out).2.2)); (case side2 => exact (Kd.R_reads' HO664.out).2.1); (case side3 => exact CU ((Kd.C_below HR0.out HB.out))); (case side4 => exact HC0.out); rintro e w' ⟨rfl, ⟨nd, rfl⟩⟩) | (go_at_call 7; (with_reducible refine (estreatlaw14_awake.calls kj3  t666 _ A18.out).mono ?_); rintro e w23 ⟨rfl, hb⟩; replace HO658 := Aside0.mk (Kd.R_below (RU HO658.out) hb); replace HO664 := Aside0.mk (Kd.R_below (RU HO664.out) hb); replace HB := Aside0.mk (below_step (BU HB.out) hb); clear hb))
        go_ret
        exact ⟨ER, BU HB.out⟩
       ·replace c17 := Bool.eq_false_iff.mpr c17; subst c17
        have H1 : (some false) = some r := by rw [if_neg (show ¬ (false = true) by decide)] at H; exact H
        clear H; have H := H1; clear H1; exact absurd (H.trans (congrArg some hr)) (by simp)
      ·rw [if_neg c15] at H; have c15b0 : (t662 == 0) = false := beq_eq_false_iff_ne.mpr c15; have c15b1 : (t662 != 0) = true := bne_iff_ne.mpr c15; exact absurd (H.trans (congrArg some hr)) (by simp)
     ·rw [if_neg c13] at H; have c13b0 : decide (0 ≤ t660) = false := decide_eq_false c13; clear c13; have H' := Aside0.mk H; clear H
      go_wp2_with (first | (go_at_call 10; (with_reducible refine (chunk_Get.calls kj3 _ _ l0 a1 a2 t655 t656 _ ?side1 ?side2 (HG.below (BU HB.out) hG) A10.out).mono ?_); (case side1 => exact CU ((Kd.C_below HR0.out HB.out))); (case side2 => exact HC0.out); rintro e w24 ⟨v657, rfl, ho0, hb⟩; have HO658 := Aside0.mk (Kd.R_lower ho0 (below_size (BU HB.out))); replace HB := Aside0.mk (below_step (BU HB.out) hb); clear hb ho0) | (go_at_call 12; (with_reducible refine (chunk_Way.calls _ _ l0 t660 _ ?side1 ?side2 A12.out).mono ?_); (case side1 => exact CU ((Kd.C_below HR0.out HB.out))); (case side2 => exact HC0.out); rintro e w' ⟨rfl, ⟨nd, rfl⟩⟩))
      go_loopg [12] kj3 (fun kq v12 w' => ∃ (x12_2 : Int), v12 = .int .i64 x12_2 ∧ Aside0 (estreatlaw14_ChunkAgain.l0 kq l0 a1 t655 x12_2 = some r) ∧ Aside0 (kq ≤ kj3) ∧ Aside0 (Kd.R k40 40 w' w.heap.size (fun _ => True) v657 t655) ∧ Aside0 (Below w.heap.size w w'))
      case atStart => exact ⟨(0), EB, H', ⟨Nat.le_refl _⟩, ⟨RU HO658.out⟩, ⟨BU HB.out⟩⟩
      case round =>
       clear H'; (try clear c1); (try clear p2); (try clear c5); (try clear c5b0); (try clear c5b1); (try clear c6); (try clear c6b0); (try clear c7); (try clear c8); (try clear c10); (try clear c11); (try clear c11b0); (try clear c11b1); (try clear c12); (try clear c13); (try clear c13b0); (try clear c15); (try clear c15b0); (try clear c15b1); (try clear c17); (try clear p2); obtain ⟨x12_2, rfl, HA, HK2, HO_7, HB⟩ := hrel
       cases gk with
       | zero => exact absurd HA.out (by simp [estreatlaw14_ChunkAgain.l0])
       | succ k2 =>
        have H := HA.out; clear HA; simp only [estreatlaw14_ChunkAgain.l0] at H
        by_cases c25 : x12_2 < 6
        ·rw [if_pos c25] at H; have c25b0 := decide_eq_true c25; clear c25; replace H := Option.bind_eq_some_iff.mp H; obtain ⟨⟨t667, t668⟩, A260, H⟩ := H; (try dsimp only at H); have A26 := Aside0.mk A260; clear A260
         by_cases c27 : t668 = 0
         ·rw [if_pos c27] at H; have c27b0 : (t668 == 0) = true := beq_iff_eq.mpr c27; have c27b1 : (t668 != 0) = false := bne_eq_false_iff_eq.mpr c27; clear c27; replace H := Option.bind_eq_some_iff.mp H; obtain ⟨t671, A280, H⟩ := H; (try dsimp only at H); have A28 := Aside0.mk A280; clear A280
          by_cases c29 : t671 = true
          ·subst c29
           have H1 : ((estreatlaw14_awake.f k2).bind fun t672 => (some t672)) = some r := by rw [if_pos rfl] at H; exact H
           clear H; have H := H1; clear H1; replace H := Option.bind_eq_some_iff.mp H; obtain ⟨t672, A300, H⟩ := H; replace H : (some t672) = some r := H; have A30 := Aside0.mk A300; clear A300; obtain rfl := Option.some.inj H; obtain ⟨Ao31, co31, eo31⟩ := Kd.R_slice HO_7.out; subst eo31
           go_wp2_with (first | (go_at_call 8; (with_reducible refine (chunk_Put.calls k2 _ _ t655 a1 x12_2 t667 t668 _ ?side1 ?side2 A26.out).mono ?_); (case side1 => exact CU ((Kd.R_reads' HO_7.out).2.2)); (case side2 => exact (Kd.R_reads' HO_7.out).2.1); rintro e w32 ⟨v669, rfl, ho0, hb⟩; replace HO_7 := Aside0.mk (Kd.R_below (RU HO_7.out) hb); have HO670 := Aside0.mk (Kd.R_lower ho0 (below_size (BU HB.out))); replace HB := Aside0.mk (below_step (BU HB.out) hb); clear hb ho0; obtain ⟨Ao33, co33, eo33⟩ := Kd.R_slice HO670.out; subst eo33) | (go_at_call 13; (with_reducible refine (estreatref01_Same.calls k2 _ _ t667 _ _ l0 true _ ?side1 ?side2 ?side3 ?side4 A28.out).mono ?_); (case side1 => exact CU ((Kd.R_reads' HO670.out).2.2)); (case side2 => exact (Kd.R_reads' HO670.out).2.1); (case side3 => exact CU ((Kd.C_below HR0.out HB.out))); (case side4 => exact HC0.out); rintro e w' ⟨rfl, ⟨nd, rfl⟩⟩) | (go_at_call 7; (with_reducible refine (estreatlaw14_awake.calls k2  t672 _ A30.out).mono ?_); rintro e w34 ⟨rfl, hb⟩; replace HO_7 := Aside0.mk (Kd.R_below (RU HO_7.out) hb); replace HO670 := Aside0.mk (Kd.R_below (RU HO670.out) hb); replace HB := Aside0.mk (below_step (BU HB.out) hb); clear hb))
           go_ret
           exact ⟨ER, BU HB.out⟩
          ·replace c29 := Bool.eq_false_iff.mpr c29; subst c29
           have H1 : (estreatlaw14_ChunkAgain.l0 k2 l0 a1 t655 (wrap64 (x12_2 + 1))) = some r := by rw [if_neg (show ¬ (false = true) by decide)] at H; exact H
           clear H; have H := H1; clear H1; have H' := Aside0.mk H; clear H; obtain ⟨Ao35, co35, eo35⟩ := Kd.R_slice HO_7.out; subst eo35
           go_wp2_with (first | (go_at_call 8; (with_reducible refine (chunk_Put.calls k2 _ _ t655 a1 x12_2 t667 t668 _ ?side1 ?side2 A26.out).mono ?_); (case side1 => exact CU ((Kd.R_reads' HO_7.out).2.2)); (case side2 => exact (Kd.R_reads' HO_7.out).2.1); rintro e w36 ⟨v669, rfl, ho0, hb⟩; replace HO_7 := Aside0.mk (Kd.R_below (RU HO_7.out) hb); have HO670 := Aside0.mk (Kd.R_lower ho0 (below_size (BU HB.out))); replace HB := Aside0.mk (below_step (BU HB.out) hb); clear hb ho0; obtain ⟨Ao37, co37, eo37⟩ := Kd.R_slice HO670.out; subst eo37) | (go_at_call 13; (with_reducible refine (estreatref01_Same.calls k2 _ _ t667 _ _ l0 false _ ?side1 ?side2 ?side3 ?side4 A28.out).mono ?_); (case side1 => exact CU ((Kd.R_reads' HO670.out).2.2)); (case side2 => exact (Kd.R_reads' HO670.out).2.1); (case side3 => exact CU ((Kd.C_below HR0.out HB.out))); (case side4 => exact HC0.out); rintro e w' ⟨rfl, ⟨nd, rfl⟩⟩))
           go_roundg k2
           case measure => have := HJ3.out; have := HK2.out; omega
           case rel => exact ⟨(wrap64 (x12_2 + 1)), EB, H', ⟨by have := HJ3.out; have := HK2.out; omega⟩, ⟨RU HO_7.out⟩, ⟨BU HB.out⟩⟩
         ·rw [if_neg c27] at H; have c27b0 : (t668 == 0) = false := beq_eq_false_iff_ne.mpr c27; have c27b1 : (t668 != 0) = true := bne_iff_ne.mpr c27; have H' := Aside0.mk H; clear H; obtain ⟨Ao38, co38, eo38⟩ := Kd.R_slice HO_7.out; subst eo38
          go_wp2_with (first | (go_at_call 8; (with_reducible refine (chunk_Put.calls k2 _ _ t655 a1 x12_2 t667 t668 _ ?side1 ?side2 A26.out).mono ?_); (case side1 => exact CU ((Kd.R_reads' HO_7.out).2.2)); (case side2 => exact (Kd.R_reads' HO_7.out).2.1); rintro e w39 ⟨v669, rfl, ho0, hb⟩; replace HO_7 := Aside0.mk (Kd.R_below (RU HO_7.out) hb); have HO670 := Aside0.mk (Kd.R_lower ho0 (below_size (BU HB.out))); replace HB := Aside0.mk (below_step (BU HB.out) hb); clear hb ho0))
          go_roundg k2
          case measure => have := HJ3.out; have := HK2.out; omega
          case rel => exact ⟨(wrap64 (x12_2 + 1)), EB, H', ⟨by have := HJ3.out; have := HK2.out; omega⟩, ⟨RU HO_7.out⟩, ⟨BU HB.out⟩⟩
        ·rw [if_neg c25] at H; have c25b0 := decide_eq_false c25; clear c25; exact absurd (H.trans (congrArg some hr)) (by simp)
    ·rw [if_neg c11] at H; have c11b0 : (t656 == 0) = false := beq_eq_false_iff_ne.mpr c11; have c11b1 : (t656 != 0) = true := bne_iff_ne.mpr c11
     by_cases c40 : (t655.length : Int) = 0
     ·rw [if_pos c40] at H; have c40b0 : ((t655.length : Int) == 0) = true := beq_iff_eq.mpr c40; have c40b1 : ((t655.length : Int) != 0) = false := bne_eq_false_iff_eq.mpr c40; clear c40; replace H := Option.bind_eq_some_iff.mp H; obtain ⟨t659, A410, H⟩ := H; replace H : (some t659) = some r := H; have A41 := Aside0.mk A410; clear A410; obtain rfl := Option.some.inj H
      go_wp2_with (first | (go_at_call 10; (with_reducible refine (chunk_Get.calls kj3 _ _ l0 a1 a2 t655 t656 _ ?side1 ?side2 (HG.below (BU HB.out) hG) A10.out).mono ?_); (case side1 => exact CU ((Kd.C_below HR0.out HB.out))); (case side2 => exact HC0.out); rintro e w42 ⟨v657, rfl, ho0, hb⟩; have HO658 := Aside0.mk (Kd.R_lower ho0 (below_size (BU HB.out))); replace HB := Aside0.mk (below_step (BU HB.out) hb); clear hb ho0; obtain ⟨Ao43, co43, eo43⟩ := Kd.R_slice HO658.out; subst eo43) | (go_at_call 7; (with_reducible refine (estreatlaw14_awake.calls kj3  t659 _ A41.out).mono ?_); rintro e w44 ⟨rfl, hb⟩; replace HO658 := Aside0.mk (Kd.R_below (RU HO658.out) hb); replace HB := Aside0.mk (below_step (BU HB.out) hb); clear hb))
      go_ret
      exact ⟨ER, BU HB.out⟩
     ·rw [if_neg c40] at H; have c40b0 : ((t655.length : Int) == 0) = false := beq_eq_false_iff_ne.mpr c40; have c40b1 : ((t655.length : Int) != 0) = true := bne_iff_ne.mpr c40
      have c40b2 : ¬ (t655 = []) := fun h_ => c40 (by rw [h_]; rfl)
      exact absurd (H.trans (congrArg some hr)) (by simp)

end Go.Proofs.YtehbkhddbdgbcaaGreatDoor.PChunkBack
