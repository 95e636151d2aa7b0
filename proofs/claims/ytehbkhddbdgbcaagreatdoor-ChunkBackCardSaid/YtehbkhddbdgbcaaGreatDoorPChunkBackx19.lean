/- WRITTEN BY A PROGRAM of this session (the turned printer's blocks of the last functions). -/
import Derived.Test.YtehbkhddbdgbcaaGreatDoorPChunkBackx18
namespace Go.Proofs.YtehbkhddbdgbcaaGreatDoor.PChunkBack
open Go.RowKit Go.Proofs.YtehbkhddbdgbcaaGreatDoorW.PrintWords Go.Proofs.YtehbkhddbdgbcaaGreatDoorW.PrintLast Go.Proofs.YtehbkhddbdgbcaaGreatDoorW.PrintMore
attribute [local go_sem] max2_int min2_int max_two min_two max_three min_three max_four min_four   -- for this text's walks alone
set_option linter.unusedVariables false
set_option linter.unusedSimpArgs false

/-! ### estreatlaw14_ChunkBack: function 3 -/
def estreatlaw14_ChunkBack.l0 : Nat → List (S40) → Int → List Int → Int → Option (Bool)
 | 0, _, _, _, _ => none
 | k + 1, x0, x1, x5, x7 => if x7 < 6 then ((chunk_Put.f k x0 x1 x7).bind fun bt664 => (if ((bt664.2 == 0) != ((x7 == 5) == (x1 == 2))) = true then (some false) else (if bt664.2 = 0 then ((chunk_Get.f k bt664.1 x1 (x0.length : Int)).bind fun bt668 => (if bt668.2 = 0 then ((estreatref14_Same.f k bt668.1 x0).bind fun t672 => (if t672 = true then (if (bt664.1.length : Int) < (x5.length : Int) then (some false) else (estreatlaw14_ChunkBack.l0 k x0 x1 x5 (wrap64 (x7 + 1)))) else (some false))) else (some false))) else (estreatlaw14_ChunkBack.l0 k x0 x1 x5 (wrap64 (x7 + 1)))))) else ((estreatlaw14_awake.f k).bind fun t663 => (some t663))
def estreatlaw14_ChunkBack.f (k : Nat) (l0 : List (S40)) (a1 : Int) : Option (Bool) := (estreatref14_Great.f k l0 100 100).bind fun t655 => (if t655 = true then ((estreatlaw14_awake.f k).bind fun t656 => (some t656)) else ((chunk_Put.f k l0 a1 (-1)).bind fun bt657 => (if bt657.2 = 0 then (estreatlaw14_ChunkBack.l0 k l0 a1 bt657.1 0) else (if (bt657.1.length : Int) = 0 then ((chunk_Best.f k l0 a1).bind fun t661 => (if t661 = (-1) then ((estreatlaw14_awake.f k).bind fun t662 => (some t662)) else (some false))) else (some false)))))
set_option maxHeartbeats 8000000 in
set_option maxRecDepth 100000 in
theorem estreatlaw14_ChunkBack.calls (k : Nat) (A0 : Option Addr) (c0 : Nat) (l0 : List (S40)) (a1 : Int) (r : Bool) (w : World) (hr0 : Kd.C k40 w A0 l0.length l0) (hc0 : l0.length ≤ c0) (hG : HG w) (h : estreatlaw14_ChunkBack.f k l0 a1 = some r) (hr : r = true) :
  Calls Tryz.prog 3 #[.slice A0 l0.length c0, .int .i64 a1] w fun e w' => e = .returned (.bool r) ∧ Below w.heap.size w w' := by
 have HR0 := Aside0.mk hr0; have HC0 := Aside0.mk hc0; clear hr0 hc0; have HB := Aside0.mk (Below.refl w.heap.size w); have H : ((estreatref14_Great.f k l0 100 100).bind fun t655 => (if t655 = true then ((estreatlaw14_awake.f k).bind fun t656 => (some t656)) else ((chunk_Put.f k l0 a1 (-1)).bind fun bt657 => (if bt657.2 = 0 then (estreatlaw14_ChunkBack.l0 k l0 a1 bt657.1 0) else (if (bt657.1.length : Int) = 0 then ((chunk_Best.f k l0 a1).bind fun t661 => (if t661 = (-1) then ((estreatlaw14_awake.f k).bind fun t662 => (some t662)) else (some false))) else (some false)))))) = some r := h; clear h; replace H := Option.bind_eq_some_iff.mp H; obtain ⟨t655, A30, H⟩ := H; (try dsimp only at H); have A3 := Aside0.mk A30; clear A30
 by_cases c4 : t655 = true
 ·subst c4
  have H1 : ((estreatlaw14_awake.f k).bind fun t656 => (some t656)) = some r := by rw [if_pos rfl] at H; exact H
  clear H; have H := H1; clear H1; replace H := Option.bind_eq_some_iff.mp H; obtain ⟨t656, A50, H⟩ := H; replace H : (some t656) = some r := H; have A5 := Aside0.mk A50; clear A50; obtain rfl := Option.some.inj H; go_enter Tryz.func3, Tryz.ntmps3
  go_wp2_with (first | (go_at_call 6; (with_reducible refine (estreatref14_Great.calls k _ _ l0 100 100 true _ ?side1 ?side2 A3.out).mono ?_); (case side1 => exact CU HR0.out); (case side2 => exact HC0.out); rintro e w' ⟨rfl, ⟨nd, rfl⟩⟩) | (go_at_call 7; (with_reducible refine (estreatlaw14_awake.calls k  t656 _ A5.out).mono ?_); rintro e w6 ⟨rfl, hb⟩; replace HB := Aside0.mk (below_step (BU HB.out) hb); clear hb))
  go_ret
  exact ⟨ER, BU HB.out⟩
 ·replace c4 := Bool.eq_false_iff.mpr c4; subst c4
  have H1 : ((chunk_Put.f k l0 a1 (-1)).bind fun bt657 => (if bt657.2 = 0 then (estreatlaw14_ChunkBack.l0 k l0 a1 bt657.1 0) else (if (bt657.1.length : Int) = 0 then ((chunk_Best.f k l0 a1).bind fun t661 => (if t661 = (-1) then ((estreatlaw14_awake.f k).bind fun t662 => (some t662)) else (some false))) else (some false)))) = some r := by rw [if_neg (show ¬ (false = true) by decide)] at H; exact H
  clear H; have H := H1; clear H1; replace H := Option.bind_eq_some_iff.mp H; obtain ⟨⟨t657, t658⟩, A70, H⟩ := H; (try dsimp only at H); have A7 := Aside0.mk A70; clear A70
  by_cases c8 : t658 = 0
  ·rw [if_pos c8] at H; have c8b0 : (t658 == 0) = true := beq_iff_eq.mpr c8; have c8b1 : (t658 != 0) = false := bne_eq_false_iff_eq.mpr c8; clear c8; have H' := Aside0.mk H; clear H; go_enter Tryz.func3, Tryz.ntmps3
   go_wp2_with (first | (go_at_call 6; (with_reducible refine (estreatref14_Great.calls k _ _ l0 100 100 false _ ?side1 ?side2 A3.out).mono ?_); (case side1 => exact CU HR0.out); (case side2 => exact HC0.out); rintro e w' ⟨rfl, ⟨nd, rfl⟩⟩) | (go_at_call 8; (with_reducible refine (chunk_Put.calls k _ _ l0 a1 (-1) t657 t658 _ ?side1 ?side2 A7.out).mono ?_); (case side1 => exact CU HR0.out); (case side2 => exact HC0.out); rintro e w9 ⟨v659, rfl, ho0, hb⟩; have HO660 := Aside0.mk (Kd.R_lower ho0 (below_size (BU HB.out))); replace HB := Aside0.mk (below_step (BU HB.out) hb); clear hb ho0))
   go_loopg [7] k (fun kq v7 w' => ∃ (x7_1 : Int), v7 = .int .i64 x7_1 ∧ Aside0 (estreatlaw14_ChunkBack.l0 kq l0 a1 t657 x7_1 = some r) ∧ Aside0 (kq ≤ k) ∧ Aside0 (Kd.R (Kd.int .u8) 5 w' w.heap.size (fun _ => True) v659 t657) ∧ Aside0 (Below w.heap.size w w'))
   case atStart => exact ⟨(0), EB, H', ⟨Nat.le_refl _⟩, ⟨RU HO660.out⟩, ⟨BU HB.out⟩⟩
   case round =>
    clear H'; (try clear p2); (try clear c3); (try clear c4); (try clear c6); (try clear c7); (try clear c8); (try clear c8b0); (try clear c8b1); obtain ⟨x7_1, rfl, HA, HK1, HO_5, HB⟩ := hrel
    cases gk with
    | zero => exact absurd HA.out (by simp [estreatlaw14_ChunkBack.l0])
    | succ k1 =>
     have H := HA.out; clear HA; simp only [estreatlaw14_ChunkBack.l0] at H
     by_cases c10 : x7_1 < 6
     ·rw [if_pos c10] at H; have c10b0 := decide_eq_true c10; clear c10; replace H := Option.bind_eq_some_iff.mp H; obtain ⟨⟨t664, t665⟩, A110, H⟩ := H; (try dsimp only at H); have A11 := Aside0.mk A110; clear A110
      by_cases c12 : ((t665 == 0) != ((x7_1 == 5) == (a1 == 2))) = true
      ·rw [if_pos c12] at H; have c12b0 : ((t665 == 0) != ((x7_1 == 5) == (a1 == 2))) = true := c12
       (try (have c12b1 : decide ((t665 == 0) = ((x7_1 == 5) == (a1 == 2))) = false := by simpa using c12))
       (try (have c12b2 : ((t665 == 0) == ((x7_1 == 5) == (a1 == 2))) = false := by simpa using c12))
       (try (have c12b3 : ¬ ((t665 == 0) = ((x7_1 == 5) == (a1 == 2))) := by simpa using c12))
       clear c12; exact absurd (H.trans (congrArg some hr)) (by simp)
      ·rw [if_neg c12] at H
       have c12b0 : ((t665 == 0) != ((x7_1 == 5) == (a1 == 2))) = false := by simpa using c12
       (try (have c12b1 : decide ((t665 == 0) = ((x7_1 == 5) == (a1 == 2))) = true := by simpa using c12))
       (try (have c12b2 : ((t665 == 0) == ((x7_1 == 5) == (a1 == 2))) = true := by simpa using c12))
       clear c12
       by_cases c13 : t665 = 0
       ·rw [if_pos c13] at H; have c13b0 : (t665 == 0) = true := beq_iff_eq.mpr c13; have c13b1 : (t665 != 0) = false := bne_eq_false_iff_eq.mpr c13
        have c12b9 : (!((x7_1 == 5) == (a1 == 2))) = false := by rw [c13b0] at c12b0; revert c12b0; cases (x7_1 == 5) <;> cases (a1 == 2) <;> decide
        clear c13; replace H := Option.bind_eq_some_iff.mp H; obtain ⟨⟨t668, t669⟩, A140, H⟩ := H; (try dsimp only at H); have A14 := Aside0.mk A140; clear A140
        by_cases c15 : t669 = 0
        ·rw [if_pos c15] at H; have c15b0 : (t669 == 0) = true := beq_iff_eq.mpr c15; have c15b1 : (t669 != 0) = false := bne_eq_false_iff_eq.mpr c15; clear c15; replace H := Option.bind_eq_some_iff.mp H; obtain ⟨t672, A160, H⟩ := H; (try dsimp only at H); have A16 := Aside0.mk A160; clear A160
         by_cases c17 : t672 = true
         ·subst c17
          have H1 : (if (t664.length : Int) < (t657.length : Int) then (some false) else (estreatlaw14_ChunkBack.l0 k1 l0 a1 t657 (wrap64 (x7_1 + 1)))) = some r := by rw [if_pos rfl] at H; exact H
          clear H; have H := H1; clear H1
          by_cases c18 : (t664.length : Int) < (t657.length : Int)
          ·rw [if_pos c18] at H; have c18b0 := decide_eq_true c18; have c18b1 : decide (t664.length < t657.length) = true := decide_eq_true (Int.ofNat_lt.mp c18); clear c18; exact absurd (H.trans (congrArg some hr)) (by simp)
          ·rw [if_neg c18] at H; have c18b0 := decide_eq_false c18; have c18b1 : decide (t664.length < t657.length) = false := decide_eq_false (fun h => c18 (Int.ofNat_lt.mpr h)); clear c18; have H' := Aside0.mk H; clear H
           go_wp2_with (first | (go_at_call 8; (with_reducible refine (chunk_Put.calls k1 _ _ l0 a1 x7_1 t664 t665 _ ?side1 ?side2 A11.out).mono ?_); (case side1 => exact CU ((Kd.C_below HR0.out HB.out))); (case side2 => exact HC0.out); rintro e w19 ⟨v666, rfl, ho0, hb⟩; have HO667 := Aside0.mk (Kd.R_lower (Kd.R_new' ho0 (Kd.R_lt (RU HO_5.out))) (below_size (BU HB.out))); replace HO_5 := Aside0.mk (Kd.R_elder' (RU HO_5.out) (Kd.R_base ho0) hb); replace HB := Aside0.mk (below_step (BU HB.out) hb); clear hb ho0; obtain ⟨Ao20, co20, eo20⟩ := Kd.R_slice HO667.out; subst eo20) | (go_at_call 10; (with_reducible refine (chunk_Get.calls k1 _ _ t664 a1 (l0.length : Int) t668 t669 _ ?side1 ?side2 (HG.below (BU HB.out) hG) A14.out).mono ?_); (case side1 => exact CU ((Kd.R_reads' HO667.out).2.2)); (case side2 => exact (Kd.R_reads' HO667.out).2.1); rintro e w21 ⟨v670, rfl, ho0, hb⟩; replace HO_5 := Aside0.mk (Kd.R_below (RU HO_5.out) hb); replace HO667 := Aside0.mk (Kd.R_below (RU HO667.out) hb); have HO671 := Aside0.mk (Kd.R_lower ho0 (below_size (BU HB.out))); replace HB := Aside0.mk (below_step (BU HB.out) hb); clear hb ho0; obtain ⟨Ao22, co22, eo22⟩ := Kd.R_slice HO671.out; subst eo22) | (go_at_call 11; (with_reducible refine (estreatref14_Same.calls k1 _ _ t668 _ _ l0 true _ ?side1 ?side2 ?side3 ?side4 A16.out).mono ?_); (case side1 => exact CU ((Kd.R_reads' HO671.out).2.2)); (case side2 => exact (Kd.R_reads' HO671.out).2.1); (case side3 => exact CU ((Kd.C_below HR0.out HB.out))); (case side4 => exact HC0.out); rintro e w' ⟨rfl, ⟨nd, rfl⟩⟩; obtain ⟨Ao23, co23, eo23⟩ := Kd.R_slice HO_5.out; subst eo23))
           go_roundg k1
           case measure => have := HK1.out; omega
           case rel => exact ⟨(wrap64 (x7_1 + 1)), EB, H', ⟨by have := HK1.out; omega⟩, ⟨RU (Kd.R_mono HO_5.out (fun _ hk => trivial))⟩, ⟨BU HB.out⟩⟩
         ·replace c17 := Bool.eq_false_iff.mpr c17; subst c17
          have H1 : (some false) = some r := by rw [if_neg (show ¬ (false = true) by decide)] at H; exact H
          clear H; have H := H1; clear H1; exact absurd (H.trans (congrArg some hr)) (by simp)
        ·rw [if_neg c15] at H; have c15b0 : (t669 == 0) = false := beq_eq_false_iff_ne.mpr c15; have c15b1 : (t669 != 0) = true := bne_iff_ne.mpr c15; exact absurd (H.trans (congrArg some hr)) (by simp)
       ·rw [if_neg c13] at H; have c13b0 : (t665 == 0) = false := beq_eq_false_iff_ne.mpr c13; have c13b1 : (t665 != 0) = true := bne_iff_ne.mpr c13
        have c12b9 : ((x7_1 == 5) == (a1 == 2)) = false := by rw [show (t665 == 0) = false from beq_eq_false_iff_ne.2 c13] at c12b0; revert c12b0; cases (x7_1 == 5) <;> cases (a1 == 2) <;> decide
        have H' := Aside0.mk H; clear H
        go_wp2_with (first | (go_at_call 8; (with_reducible refine (chunk_Put.calls k1 _ _ l0 a1 x7_1 t664 t665 _ ?side1 ?side2 A11.out).mono ?_); (case side1 => exact CU ((Kd.C_below HR0.out HB.out))); (case side2 => exact HC0.out); rintro e w24 ⟨v666, rfl, ho0, hb⟩; have HO667 := Aside0.mk (Kd.R_lower (Kd.R_new' ho0 (Kd.R_lt (RU HO_5.out))) (below_size (BU HB.out))); replace HO_5 := Aside0.mk (Kd.R_elder' (RU HO_5.out) (Kd.R_base ho0) hb); replace HB := Aside0.mk (below_step (BU HB.out) hb); clear hb ho0))
        go_roundg k1
        case measure => have := HK1.out; omega
        case rel => exact ⟨(wrap64 (x7_1 + 1)), EB, H', ⟨by have := HK1.out; omega⟩, ⟨RU (Kd.R_mono HO_5.out (fun _ hk => trivial))⟩, ⟨BU HB.out⟩⟩
     ·rw [if_neg c10] at H; have c10b0 := decide_eq_false c10; clear c10; replace H := Option.bind_eq_some_iff.mp H; obtain ⟨t663, A250, H⟩ := H; replace H : (some t663) = some r := H; have A25 := Aside0.mk A250; clear A250; obtain rfl := Option.some.inj H
      go_wp2_with (first | (go_at_call 7; (with_reducible refine (estreatlaw14_awake.calls k1  t663 _ A25.out).mono ?_); rintro e w26 ⟨rfl, hb⟩; replace HO_5 := Aside0.mk (Kd.R_below (RU HO_5.out) hb); replace HB := Aside0.mk (below_step (BU HB.out) hb); clear hb))
      go_ret
      exact ⟨ER, BU HB.out⟩
  ·rw [if_neg c8] at H; have c8b0 : (t658 == 0) = false := beq_eq_false_iff_ne.mpr c8; have c8b1 : (t658 != 0) = true := bne_iff_ne.mpr c8
   by_cases c27 : (t657.length : Int) = 0
   ·rw [if_pos c27] at H; have c27b0 : ((t657.length : Int) == 0) = true := beq_iff_eq.mpr c27; have c27b1 : ((t657.length : Int) != 0) = false := bne_eq_false_iff_eq.mpr c27; clear c27; replace H := Option.bind_eq_some_iff.mp H; obtain ⟨t661, A280, H⟩ := H; (try dsimp only at H); have A28 := Aside0.mk A280; clear A280
    by_cases c29 : t661 = (-1)
    ·rw [if_pos c29] at H; have c29b0 : (t661 == (-1)) = true := beq_iff_eq.mpr c29; have c29b1 : (t661 != (-1)) = false := bne_eq_false_iff_eq.mpr c29; clear c29; replace H := Option.bind_eq_some_iff.mp H; obtain ⟨t662, A300, H⟩ := H; replace H : (some t662) = some r := H; have A30 := Aside0.mk A300; clear A300; obtain rfl := Option.some.inj H; go_enter Tryz.func3, Tryz.ntmps3
     go_wp2_with (first | (go_at_call 6; (with_reducible refine (estreatref14_Great.calls k _ _ l0 100 100 false _ ?side1 ?side2 A3.out).mono ?_); (case side1 => exact CU HR0.out); (case side2 => exact HC0.out); rintro e w' ⟨rfl, ⟨nd, rfl⟩⟩) | (go_at_call 8; (with_reducible refine (chunk_Put.calls k _ _ l0 a1 (-1) t657 t658 _ ?side1 ?side2 A7.out).mono ?_); (case side1 => exact CU HR0.out); (case side2 => exact HC0.out); rintro e w31 ⟨v659, rfl, ho0, hb⟩; have HO660 := Aside0.mk (Kd.R_lower ho0 (below_size (BU HB.out))); replace HB := Aside0.mk (below_step (BU HB.out) hb); clear hb ho0; obtain ⟨Ao32, co32, eo32⟩ := Kd.R_slice HO660.out; subst eo32) | (go_at_call 9; (with_reducible refine (chunk_Best.calls k _ _ l0 a1 t661 _ ?side1 ?side2 A28.out).mono ?_); (case side1 => exact CU ((Kd.C_below HR0.out HB.out))); (case side2 => exact HC0.out); rintro e w33 ⟨rfl, hb⟩; replace HO660 := Aside0.mk (Kd.R_below (RU HO660.out) hb); replace HB := Aside0.mk (below_step (BU HB.out) hb); clear hb) | (go_at_call 7; (with_reducible refine (estreatlaw14_awake.calls k  t662 _ A30.out).mono ?_); rintro e w34 ⟨rfl, hb⟩; replace HO660 := Aside0.mk (Kd.R_below (RU HO660.out) hb); replace HB := Aside0.mk (below_step (BU HB.out) hb); clear hb))
     go_ret
     exact ⟨ER, BU HB.out⟩
    ·rw [if_neg c29] at H; have c29b0 : (t661 == (-1)) = false := beq_eq_false_iff_ne.mpr c29; have c29b1 : (t661 != (-1)) = true := bne_iff_ne.mpr c29; exact absurd (H.trans (congrArg some hr)) (by simp)
   ·rw [if_neg c27] at H; have c27b0 : ((t657.length : Int) == 0) = false := beq_eq_false_iff_ne.mpr c27; have c27b1 : ((t657.length : Int) != 0) = true := bne_iff_ne.mpr c27
    have c27b2 : ¬ (t657 = []) := fun h_ => c27 (by rw [h_]; rfl)
    exact absurd (H.trans (congrArg some hr)) (by simp)

end Go.Proofs.YtehbkhddbdgbcaaGreatDoor.PChunkBack
