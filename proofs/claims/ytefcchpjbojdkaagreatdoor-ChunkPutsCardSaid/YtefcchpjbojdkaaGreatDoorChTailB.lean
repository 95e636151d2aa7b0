/- WRITTEN BY A PROGRAM (the printer's blocks of the last functions). -/
import Derived.Test.YtefcchpjbojdkaaGreatDoorPChunkPutsx22
import Derived.Test.YtefcchpjbojdkaaGreatDoorPChunkPutsx21
import Derived.Test.YtefcchpjbojdkaaGreatDoorPChunkPutsx20
import Derived.Test.YtefcchpjbojdkaaGreatDoorPChunkPutsx19
import Derived.Test.YtefcchpjbojdkaaGreatDoorPChunkPutsx17
import Derived.Test.YtefcchpjbojdkaaGreatDoorPChunkPutsx16
namespace Go.Proofs.YtefcchpjbojdkaaGreatDoor.PChunkPuts
open Go.RowKit Go.Proofs.YtefcchpjbojdkaaGreatDoorW.PrintWords Go.Proofs.YtefcchpjbojdkaaGreatDoorW.PrintLast Go.Proofs.YtefcchpjbojdkaaGreatDoorW.PrintMore
attribute [local go_sem] max2_int min2_int max_two min_two max_three min_three max_four min_four   -- for this text's walks alone
set_option linter.unusedVariables false
set_option linter.unusedSimpArgs false

/-! ### estreatref14_lay: function 17 -/
mutual
def estreatref14_lay.l0 : Nat → List (S34) → Int → List Bool → List Int → List ByteArray → Bool → Int → Option (List Int)
 | 0, _, _, _, _, _, _, _ => none
 | k + 1, x0, x1, x5, x6, x7, x8, x9 => if x9 < (x0.length : Int) then (if 0 ≤ x9 then (if x5.length < 140737488355328 then ((some (x5 ++ [(((rd_T34 x0 x9).f0) == 0)] : List Bool)).bind fun y864 => (if x8 = true then (estreatref14_lay.j1 k x0 x1 y864 x6 x7 true x9) else (estreatref14_lay.j1 k x0 x1 y864 x6 x7 (((rd_T34 x0 x9).f0) == 0) x9))) else (none)) else (none)) else (if x8 = true then ((some (([1] : List Int) : List Int)).bind fun y886 => ((estreatref07_Bytes.f k x5).bind fun t889 => (if y886.length + t889.length < 140737488355328 then (estreatref14_lay.j2 k x1 x6 x7 (y886 ++ t889)) else (none)))) else (estreatref14_lay.j2 k x1 x6 x7 (([0] : List Int))))
def estreatref14_lay.j1 : Nat → List (S34) → Int → List Bool → List Int → List ByteArray → Bool → Int → Option (List Int)
 | 0, _, _, _, _, _, _, _ => none
 | k + 1, x0, x1, x5, x6, x7, x8, x9 => if 0 ≤ x9 then (if x9 < (x0.length : Int) then (if ((rd_T34 x0 x9).f0) = 1 then (if x6.length < 17592186044416 then ((some (x6 ++ [(rd_T34 x0 x9).f1] : List Int)).bind fun y870 => (if ((rd_T34 x0 x9).f0) = 2 then (if x7.length < 8796093022208 then (estreatref14_lay.l0 k x0 x1 x5 y870 (x7 ++ [(rd_T34 x0 x9).f2]) x8 (wrap64 (x9 + 1))) else (none)) else (estreatref14_lay.l0 k x0 x1 x5 y870 x7 x8 (wrap64 (x9 + 1))))) else (none)) else (if ((rd_T34 x0 x9).f0) = 2 then (if x7.length < 8796093022208 then (estreatref14_lay.l0 k x0 x1 x5 x6 (x7 ++ [(rd_T34 x0 x9).f2]) x8 (wrap64 (x9 + 1))) else (none)) else (estreatref14_lay.l0 k x0 x1 x5 x6 x7 x8 (wrap64 (x9 + 1))))) else (none)) else (none)
def estreatref14_lay.j2 : Nat → Int → List Int → List ByteArray → List Int → Option (List Int)
 | 0, _, _, _, _ => none
 | k + 1, x1, x6, x7, x10 => if x10.length < 140737488355328 then ((some (x10 ++ [(x1) % 256] : List Int)).bind fun y895 => (if x1 = 0 then ((estreatref08_Put.f k x6).bind fun t898 => (if y895.length + t898.length < 140737488355328 then (some (y895 ++ t898)) else (none))) else (if x1 = 1 then ((estreatref09_Put.f k x6).bind fun t904 => (if y895.length + t904.length < 140737488355328 then (some (y895 ++ t904)) else (none))) else (if x1 = 2 then ((estreatref10_Put.f k x6).bind fun t910 => (if y895.length + t910.length < 140737488355328 then (some (y895 ++ t910)) else (none))) else (if x1 = 3 then ((estreatref11_Put.f k x6).bind fun t916 => (if y895.length + t916.length < 140737488355328 then (some (y895 ++ t916)) else (none))) else (if x1 = 4 then ((estreatref12_Put.f k x6).bind fun t922 => (if y895.length + t922.length < 140737488355328 then (some (y895 ++ t922)) else (none))) else ((estreatref13_Put.f k x7).bind fun t928 => (if y895.length + t928.length < 140737488355328 then (some (y895 ++ t928)) else (none))))))))) else (none)
end
def estreatref14_lay.f (k : Nat) (l0 : List (S34)) (a1 : Int) : Option (List Int) := estreatref14_lay.l0 k l0 a1 ([] : List Bool) ([] : List Int) ([] : List ByteArray) false 0
set_option maxHeartbeats 8000000 in
set_option maxRecDepth 100000 in
theorem estreatref14_lay.calls (k : Nat) (A0 : Option Addr) (c0 : Nat) (l0 : List (S34)) (a1 : Int) (r : List Int) (w : World) (hr0 : Kd.C k34 w A0 l0.length l0) (hc0 : l0.length ≤ c0) (h : estreatref14_lay.f k l0 a1 = some r) :
  Calls Tryz.prog 17 #[.slice A0 l0.length c0, .int .i64 a1] w fun e w' => ∃ v0_ : Value, e = .returned (v0_) ∧ Kd.R (Kd.int .u8) 5 w' w.heap.size (fun _ => True) v0_ r ∧ Below w.heap.size w w' := by
 have HR0 := Aside0.mk hr0
 have HC0 := Aside0.mk hc0
 clear hr0 hc0
 have HB := Aside0.mk (Below.refl w.heap.size w)
 have H : (estreatref14_lay.l0 k l0 a1 ([] : List Bool) ([] : List Int) ([] : List ByteArray) false 0) = some r := h
 clear h
 have H' := Aside0.mk H
 clear H
 go_enter Tryz.func17, Tryz.ntmps17
 go_wp2
 go_loopg [5, 6, 7, 8, 9] k (fun kq v5 v6 v7 v8 v9 w' => ∃ (x5_1 : List Bool) (x6_1 : List Int) (x7_1 : List ByteArray) (x8_1 : Bool) (x9_1 : Int), v8 = .bool x8_1 ∧ v9 = .int .i64 x9_1 ∧ Aside0 (estreatref14_lay.l0 kq l0 a1 x5_1 x6_1 x7_1 x8_1 x9_1 = some r) ∧ Aside0 (kq ≤ k) ∧ Aside0 (Kd.R Kd.bool 4 w' w.heap.size (fun _ => True) v5 x5_1) ∧ Aside0 (Kd.R (Kd.int .i64) 2 w' w.heap.size (fun _ => True) v6 x6_1) ∧ Aside0 (Kd.R Kd.string 9 w' w.heap.size (fun _ => True) v7 x7_1) ∧ Aside0 (Below w.heap.size w w'))
 case atStart => exact ⟨(([] : List Bool)), (([] : List Int)), (([] : List ByteArray)), (false), (0), EB, EB, H', ⟨Nat.le_refl _⟩, ⟨by first | exact Kd.R_nil _ _ _ _ _ | exact Kd.N_nil _ _ _ _ _ | exact Kd.V_nil _ _ _ _ _ | exact Kd.Q_nil _ _ _ _ _ | exact Kd.S_nil _ _ _ _ _⟩, ⟨by first | exact Kd.R_nil _ _ _ _ _ | exact Kd.N_nil _ _ _ _ _ | exact Kd.V_nil _ _ _ _ _ | exact Kd.Q_nil _ _ _ _ _ | exact Kd.S_nil _ _ _ _ _⟩, ⟨by first | exact Kd.R_nil _ _ _ _ _ | exact Kd.N_nil _ _ _ _ _ | exact Kd.V_nil _ _ _ _ _ | exact Kd.Q_nil _ _ _ _ _ | exact Kd.S_nil _ _ _ _ _⟩, ⟨BU HB.out⟩⟩
 case round =>
  clear H'
  try clear c1
  try clear p2
  obtain ⟨x5_1, x6_1, x7_1, x8_1, x9_1, rfl, rfl, HA, HK1, HO_5, HO_6, HO_7, HB⟩ := hrel
  cases gk with
  | zero => exact absurd HA.out (by simp [estreatref14_lay.l0])
  | succ k1 =>
   have H := HA.out
   clear HA
   simp only [estreatref14_lay.l0] at H
   by_cases c3 : x9_1 < (l0.length : Int)
   ·rw [if_pos c3] at H
    have c3b0 : decide (x9_1 < (l0.length : Int)) = true := decide_eq_true c3
    clear c3
    by_cases c4 : 0 ≤ x9_1
    ·rw [if_pos c4] at H
     have c4b0 : decide (0 ≤ x9_1) = true := decide_eq_true c4
     clear c4
     by_cases c5 : x5_1.length < 140737488355328
     ·rw [if_pos c5] at H
      have LMc5 := Aside0.mk c5
      clear c5
      obtain ⟨y864, hy864⟩ : ∃ y_ : List Bool, y_ = (x5_1 ++ [(((rd_T34 l0 x9_1).f0) == 0)]) := ⟨_, rfl⟩
      replace H : (if x8_1 = true then (estreatref14_lay.j1 k1 l0 a1 y864 x6_1 x7_1 true x9_1) else (estreatref14_lay.j1 k1 l0 a1 y864 x6_1 x7_1 (((rd_T34 l0 x9_1).f0) == 0) x9_1)) = some r := by first | (rw [hy864]; with_reducible exact H) | (have H2_ := (Option.bind_some _ _).symm.trans H; rw [hy864]; with_reducible exact H2_) | (have H2_ := (Option.bind_some _ _).symm.trans H; with_reducible exact H2_) | with_reducible exact H | (rw [hy864]; exact H) | exact H
      have Ny864 := Aside0.mk hy864
      clear hy864
      have HC6 := Aside0.mk H
      clear H
      have p863 : 0 ≤ (x9_1 : Int) := OD
      have q863 : x9_1 < (l0.length : Int) := OD
      obtain ⟨ad863, e863, hx863_0, hx863_1, hx863_2⟩ := at_T34 HR0.out x9_1 p863 q863
      cases e863
      replace hx863_0 := (HB.out.cell (World.block_lt_of_cell? w _ hx863_0)).trans hx863_0
      replace hx863_1 := (HB.out.cell (World.block_lt_of_cell? w _ hx863_1)).trans hx863_1
      replace hx863_2 := (HB.out.cell (World.block_lt_of_cell? w _ hx863_2)).trans hx863_2
      replace p863 := eq_true p863
      replace q863 := eq_true q863
      go_upto_region 9 with (first | ((with_reducible refine gate_builtin (b := .append) (xs := #[.tmp 17, .tmp 24]) rfl ?_); at_builtin; refine Kd.R_append Kd.bool (w0 := w) w.heap.size rfl (.tmp 17) (.tmp 24) 54 4 (.bool false) 1 rfl Tryz.underlying54 info4 rfl (by decide) (by omega) u5 x5_1 (((rd_T34 l0 x9_1).f0) == 0) [.bool (((rd_T34 l0 x9_1).f0) == 0)] (fun _ => True) (fun _ => False) rfl rfl ?aP (fun _ hk => hk.elim) ?aF ?aO ?aB ?aS ?aL ?_; (case aP => exact rfl); (case aB => exact (BU HB.out)); (case aF => exact (fun _ _ => trivial)); (case aO => exact (RU HO_5.out)); (case aS => exact (below_size (BU HB.out))); (case aL => have := LMc5.out; omega); intro v865 w7 ho hb hg hat; rw [← Ny864.out] at ho; have n0_ := Aside0.mk (Kd.R_over' (RU HO_6.out) (Kd.R_typed (RU HO_5.out)) (by decide) hg); have n1_ := Aside0.mk (Kd.R_over' (RU HO_7.out) (Kd.R_typed (RU HO_5.out)) (by decide) hg); have n2_ := Aside0.mk (hb); have n3_ := Aside0.mk (ho); clear HO_6 HO_7 HB HO_5; have HO_6 := n0_; have HO_7 := n1_; have HB := n2_; have HO866 := n3_; clear n0_ n1_ n2_ n3_; clear ho hb hg hat))
      (try simp only [Act.put, List.setIfInBounds_toArray, List.set_cons_zero, List.set_cons_succ])
      go_cut [8] (fun v8 wc => ∃ (kq : Nat) (x8_5 : Bool), v8 = .bool x8_5 ∧ Aside0 (estreatref14_lay.j1 kq l0 a1 y864 x6_1 x7_1 x8_5 x9_1 = some r) ∧ Aside0 (kq ≤ k1) ∧ Aside0 (Kd.R Kd.bool 4 wc w.heap.size (fun _ => True) v865 y864) ∧ Aside0 (Kd.R (Kd.int .i64) 2 wc w.heap.size (fun _ => True) u6 x6_1) ∧ Aside0 (Kd.R Kd.string 9 wc w.heap.size (fun _ => True) u7 x7_1) ∧ Aside0 (Below w.heap.size w wc))
      case first =>
       have H := HC6.out
       clear HC6
       by_cases c8 : x8_1 = true
       ·subst c8
        have H1 : (estreatref14_lay.j1 k1 l0 a1 y864 x6_1 x7_1 true x9_1) = some r := by rw [if_pos rfl] at H; exact H
        clear H
        have H := H1
        clear H1
        have H' := Aside0.mk H
        clear H
        go_wp2
        go_meet
        case rel => exact ⟨_, (true), EB, H', ⟨by have := HK1.out; first | omega | exact Nat.le_refl _⟩, ⟨RU HO866.out⟩, ⟨RU HO_6.out⟩, ⟨RU HO_7.out⟩, ⟨BU HB.out⟩⟩
       ·replace c8 := Bool.eq_false_iff.mpr c8
        subst c8
        have H1 : (estreatref14_lay.j1 k1 l0 a1 y864 x6_1 x7_1 (((rd_T34 l0 x9_1).f0) == 0) x9_1) = some r := by rw [if_neg (show ¬ (false = true) by decide)] at H; exact H
        clear H
        have H := H1
        clear H1
        have H' := Aside0.mk H
        clear H
        have p867 : 0 ≤ (x9_1 : Int) := OD
        have q867 : x9_1 < (l0.length : Int) := OD
        obtain ⟨ad867, e867, hx867_0, hx867_1, hx867_2⟩ := at_T34 HR0.out x9_1 p867 q867
        obtain rfl : ad863 = ad867 := (by injection e867)
        replace hx867_0 := (HB.out.cell (World.block_lt_of_cell? w _ hx867_0)).trans hx867_0
        replace hx867_1 := (HB.out.cell (World.block_lt_of_cell? w _ hx867_1)).trans hx867_1
        replace hx867_2 := (HB.out.cell (World.block_lt_of_cell? w _ hx867_2)).trans hx867_2
        replace p867 := eq_true p867
        replace q867 := eq_true q867
        go_wp2
        go_meet
        case rel => exact ⟨_, ((((rd_T34 l0 x9_1).f0) == 0)), EB, H', ⟨by have := HK1.out; first | omega | exact Nat.le_refl _⟩, ⟨RU HO866.out⟩, ⟨RU HO_6.out⟩, ⟨RU HO_7.out⟩, ⟨BU HB.out⟩⟩
      case rest =>
       clear HC6
       try clear c1
       try clear p2
       try clear c3
       try clear c3b0
       try clear c4
       try clear c4b0
       try clear c5
       try clear c8
       try clear p8
       try clear q8
       try clear hx8
       try clear hx863_0
       try clear hx863_1
       try clear hx863_2
       try clear hx867_0
       try clear hx867_1
       try clear hx867_2
       try clear p2
       try clear p863
       try clear p867
       try clear q863
       try clear q867
       obtain ⟨kq, x8_5, rfl, HA, HJ5, HO_5, HO_6, HO_7, HB⟩ := hcut
       cases kq with
       | zero => exact absurd HA.out (by simp [estreatref14_lay.j1])
       | succ kj5 =>
        have H := HA.out
        clear HA
        simp only [estreatref14_lay.j1] at H
        by_cases c9 : 0 ≤ x9_1
        ·rw [if_pos c9] at H
         have c9b0 : decide (0 ≤ x9_1) = true := decide_eq_true c9
         clear c9
         by_cases c10 : x9_1 < (l0.length : Int)
         ·rw [if_pos c10] at H
          have c10b0 : decide (x9_1 < (l0.length : Int)) = true := decide_eq_true c10
          clear c10
          by_cases c11 : ((rd_T34 l0 x9_1).f0) = 1
          ·rw [if_pos c11] at H
           have c11b0 : (((rd_T34 l0 x9_1).f0) == 1) = true := beq_iff_eq.mpr c11
           have c11b1 : (((rd_T34 l0 x9_1).f0) != 1) = false := bne_eq_false_iff_eq.mpr c11
           clear c11
           by_cases c12 : x6_1.length < 17592186044416
           ·rw [if_pos c12] at H
            have LMc12 := Aside0.mk c12
            clear c12
            obtain ⟨y870, hy870⟩ : ∃ y_ : List Int, y_ = (x6_1 ++ [(rd_T34 l0 x9_1).f1]) := ⟨_, rfl⟩
            replace H : (if ((rd_T34 l0 x9_1).f0) = 2 then (if x7_1.length < 8796093022208 then (estreatref14_lay.l0 kj5 l0 a1 y864 y870 (x7_1 ++ [(rd_T34 l0 x9_1).f2]) x8_5 (wrap64 (x9_1 + 1))) else (none)) else (estreatref14_lay.l0 kj5 l0 a1 y864 y870 x7_1 x8_5 (wrap64 (x9_1 + 1)))) = some r := by first | (rw [hy870]; with_reducible exact H) | (have H2_ := (Option.bind_some _ _).symm.trans H; rw [hy870]; with_reducible exact H2_) | (have H2_ := (Option.bind_some _ _).symm.trans H; with_reducible exact H2_) | with_reducible exact H | (rw [hy870]; exact H) | exact H
            have Ny870 := Aside0.mk hy870
            clear hy870
            by_cases c13 : ((rd_T34 l0 x9_1).f0) = 2
            ·rw [if_pos c13] at H
             have c13b0 : (((rd_T34 l0 x9_1).f0) == 2) = true := beq_iff_eq.mpr c13
             have c13b1 : (((rd_T34 l0 x9_1).f0) != 2) = false := bne_eq_false_iff_eq.mpr c13
             clear c13
             by_cases c14 : x7_1.length < 8796093022208
             ·rw [if_pos c14] at H
              have LMc14 := Aside0.mk c14
              clear c14
              obtain ⟨y875, hy875⟩ : ∃ y_ : List ByteArray, y_ = (x7_1 ++ [(rd_T34 l0 x9_1).f2]) := ⟨_, rfl⟩
              replace H : (estreatref14_lay.l0 kj5 l0 a1 y864 y870 y875 x8_5 (wrap64 (x9_1 + 1))) = some r := by first | (rw [hy875]; with_reducible exact H) | (have H2_ := (Option.bind_some _ _).symm.trans H; rw [hy875]; with_reducible exact H2_) | (have H2_ := (Option.bind_some _ _).symm.trans H; with_reducible exact H2_) | with_reducible exact H | (rw [hy875]; exact H) | exact H
              have Ny875 := Aside0.mk hy875
              clear hy875
              have H' := Aside0.mk H
              clear H
              have p868 : 0 ≤ (x9_1 : Int) := OD
              have q868 : x9_1 < (l0.length : Int) := OD
              obtain ⟨ad868, e868, hx868_0, hx868_1, hx868_2⟩ := at_T34 HR0.out x9_1 p868 q868
              obtain rfl : ad863 = ad868 := (by injection e868)
              replace hx868_0 := (HB.out.cell (World.block_lt_of_cell? w _ hx868_0)).trans hx868_0
              replace hx868_1 := (HB.out.cell (World.block_lt_of_cell? w _ hx868_1)).trans hx868_1
              replace hx868_2 := (HB.out.cell (World.block_lt_of_cell? w _ hx868_2)).trans hx868_2
              replace p868 := eq_true p868
              replace q868 := eq_true q868
              have p869 : 0 ≤ (x9_1 : Int) := OD
              have q869 : x9_1 < (l0.length : Int) := OD
              obtain ⟨ad869, e869, hx869_0, hx869_1, hx869_2⟩ := at_T34 HR0.out x9_1 p869 q869
              obtain rfl : ad863 = ad869 := (by injection e869)
              replace hx869_0 := (HB.out.cell (World.block_lt_of_cell? w _ hx869_0)).trans hx869_0
              replace hx869_1 := (HB.out.cell (World.block_lt_of_cell? w _ hx869_1)).trans hx869_1
              replace hx869_2 := (HB.out.cell (World.block_lt_of_cell? w _ hx869_2)).trans hx869_2
              replace p869 := eq_true p869
              replace q869 := eq_true q869
              go_wp2_with (first | ((with_reducible refine gate_builtin (b := .append) (xs := #[.tmp 41, .tmp 47]) rfl ?_); at_builtin; refine Kd.R_append (Kd.int .i64) (w0 := w) w.heap.size rfl (.tmp 41) (.tmp 47) 41 2 (.int .i64 0) 8 rfl Tryz.underlying41 info2 rfl (by decide) (by omega) u6 x6_1 ((rd_T34 l0 x9_1).f1) [.int .i64 ((rd_T34 l0 x9_1).f1)] (fun _ => True) (fun _ => False) rfl rfl ?aP (fun _ hk => hk.elim) ?aF ?aO ?aB ?aS ?aL ?_; (case aP => exact rfl); (case aB => exact (BU HB.out)); (case aF => exact (fun _ _ => trivial)); (case aO => exact (RU HO_6.out)); (case aS => exact (below_size (BU HB.out))); (case aL => have := LMc12.out; omega); intro v871 w15 ho hb hg hat; rw [← Ny870.out] at ho; have n0_ := Aside0.mk (Kd.R_over' (RU HO_5.out) (Kd.R_typed (RU HO_6.out)) (by decide) hg); have n1_ := Aside0.mk (Kd.R_over' (RU HO_7.out) (Kd.R_typed (RU HO_6.out)) (by decide) hg); have n2_ := Aside0.mk (hb); have n3_ := Aside0.mk (ho); clear HO_5 HO_7 HB HO_6; have HO_5 := n0_; have HO_7 := n1_; have HB := n2_; have HO872 := n3_; clear n0_ n1_ n2_ n3_; clear ho hb hg hat; have p873 : 0 ≤ (x9_1 : Int) := OD; have q873 : x9_1 < (l0.length : Int) := OD; obtain ⟨ad873, e873, hx873_0, hx873_1, hx873_2⟩ := at_T34 HR0.out x9_1 p873 q873; obtain rfl : ad863 = ad873 := (by injection e873); replace hx873_0 := (HB.out.cell (World.block_lt_of_cell? w _ hx873_0)).trans hx873_0; replace hx873_1 := (HB.out.cell (World.block_lt_of_cell? w _ hx873_1)).trans hx873_1; replace hx873_2 := (HB.out.cell (World.block_lt_of_cell? w _ hx873_2)).trans hx873_2; replace p873 := eq_true p873; replace q873 := eq_true q873; have p874 : 0 ≤ (x9_1 : Int) := OD; have q874 : x9_1 < (l0.length : Int) := OD; obtain ⟨ad874, e874, hx874_0, hx874_1, hx874_2⟩ := at_T34 HR0.out x9_1 p874 q874; obtain rfl : ad863 = ad874 := (by injection e874); replace hx874_0 := (HB.out.cell (World.block_lt_of_cell? w _ hx874_0)).trans hx874_0; replace hx874_1 := (HB.out.cell (World.block_lt_of_cell? w _ hx874_1)).trans hx874_1; replace hx874_2 := (HB.out.cell (World.block_lt_of_cell? w _ hx874_2)).trans hx874_2; replace p874 := eq_true p874; replace q874 := eq_true q874) | ((with_reducible refine gate_builtin (b := .append) (xs := #[.tmp 55, .tmp 61]) rfl ?_); at_builtin; refine Kd.R_append Kd.string (w0 := w) w.heap.size rfl (.tmp 55) (.tmp 61) 42 9 (.string ⟨#[]⟩) 16 rfl Tryz.underlying42 info9 rfl (by decide) (by omega) u7 x7_1 ((rd_T34 l0 x9_1).f2) [.string ((rd_T34 l0 x9_1).f2)] (fun _ => True) (fun _ => False) rfl rfl ?aP (fun _ hk => hk.elim) ?aF ?aO ?aB ?aS ?aL ?_; (case aP => exact rfl); (case aB => exact (BU HB.out)); (case aF => exact (fun _ _ => trivial)); (case aO => exact (RU HO_7.out)); (case aS => exact (below_size (BU HB.out))); (case aL => have := LMc14.out; omega); intro v876 w16 ho hb hg hat; rw [← Ny875.out] at ho; have n0_ := Aside0.mk (Kd.R_over' (RU HO_5.out) (Kd.R_typed (RU HO_7.out)) (by decide) hg); have n1_ := Aside0.mk (Kd.R_over' (RU HO872.out) (Kd.R_typed (RU HO_7.out)) (by decide) hg); have n2_ := Aside0.mk (hb); have n3_ := Aside0.mk (ho); clear HO_5 HO872 HB HO_7; have HO_5 := n0_; have HO872 := n1_; have HB := n2_; have HO877 := n3_; clear n0_ n1_ n2_ n3_; clear ho hb hg hat))
              go_roundg kj5
              case measure => have := HK1.out; have := HJ5.out; omega
              case rel => exact ⟨(y864), (y870), (y875), (x8_5), (wrap64 (x9_1 + 1)), EB, EB, H', ⟨by have := HK1.out; have := HJ5.out; omega⟩, ⟨RU HO_5.out⟩, ⟨RU HO872.out⟩, ⟨RU HO877.out⟩, ⟨BU HB.out⟩⟩
             ·rw [if_neg c14] at H
              exact absurd H (by simp)
            ·rw [if_neg c13] at H
             have c13b0 : (((rd_T34 l0 x9_1).f0) == 2) = false := beq_eq_false_iff_ne.mpr c13
             have c13b1 : (((rd_T34 l0 x9_1).f0) != 2) = true := bne_iff_ne.mpr c13
             have H' := Aside0.mk H
             clear H
             have p868 : 0 ≤ (x9_1 : Int) := OD
             have q868 : x9_1 < (l0.length : Int) := OD
             obtain ⟨ad868, e868, hx868_0, hx868_1, hx868_2⟩ := at_T34 HR0.out x9_1 p868 q868
             obtain rfl : ad863 = ad868 := (by injection e868)
             replace hx868_0 := (HB.out.cell (World.block_lt_of_cell? w _ hx868_0)).trans hx868_0
             replace hx868_1 := (HB.out.cell (World.block_lt_of_cell? w _ hx868_1)).trans hx868_1
             replace hx868_2 := (HB.out.cell (World.block_lt_of_cell? w _ hx868_2)).trans hx868_2
             replace p868 := eq_true p868
             replace q868 := eq_true q868
             have p869 : 0 ≤ (x9_1 : Int) := OD
             have q869 : x9_1 < (l0.length : Int) := OD
             obtain ⟨ad869, e869, hx869_0, hx869_1, hx869_2⟩ := at_T34 HR0.out x9_1 p869 q869
             obtain rfl : ad863 = ad869 := (by injection e869)
             replace hx869_0 := (HB.out.cell (World.block_lt_of_cell? w _ hx869_0)).trans hx869_0
             replace hx869_1 := (HB.out.cell (World.block_lt_of_cell? w _ hx869_1)).trans hx869_1
             replace hx869_2 := (HB.out.cell (World.block_lt_of_cell? w _ hx869_2)).trans hx869_2
             replace p869 := eq_true p869
             replace q869 := eq_true q869
             go_wp2_with (first | ((with_reducible refine gate_builtin (b := .append) (xs := #[.tmp 41, .tmp 47]) rfl ?_); at_builtin; refine Kd.R_append (Kd.int .i64) (w0 := w) w.heap.size rfl (.tmp 41) (.tmp 47) 41 2 (.int .i64 0) 8 rfl Tryz.underlying41 info2 rfl (by decide) (by omega) u6 x6_1 ((rd_T34 l0 x9_1).f1) [.int .i64 ((rd_T34 l0 x9_1).f1)] (fun _ => True) (fun _ => False) rfl rfl ?aP (fun _ hk => hk.elim) ?aF ?aO ?aB ?aS ?aL ?_; (case aP => exact rfl); (case aB => exact (BU HB.out)); (case aF => exact (fun _ _ => trivial)); (case aO => exact (RU HO_6.out)); (case aS => exact (below_size (BU HB.out))); (case aL => have := LMc12.out; omega); intro v871 w17 ho hb hg hat; rw [← Ny870.out] at ho; have n0_ := Aside0.mk (Kd.R_over' (RU HO_5.out) (Kd.R_typed (RU HO_6.out)) (by decide) hg); have n1_ := Aside0.mk (Kd.R_over' (RU HO_7.out) (Kd.R_typed (RU HO_6.out)) (by decide) hg); have n2_ := Aside0.mk (hb); have n3_ := Aside0.mk (ho); clear HO_5 HO_7 HB HO_6; have HO_5 := n0_; have HO_7 := n1_; have HB := n2_; have HO872 := n3_; clear n0_ n1_ n2_ n3_; clear ho hb hg hat; have p873 : 0 ≤ (x9_1 : Int) := OD; have q873 : x9_1 < (l0.length : Int) := OD; obtain ⟨ad873, e873, hx873_0, hx873_1, hx873_2⟩ := at_T34 HR0.out x9_1 p873 q873; obtain rfl : ad863 = ad873 := (by injection e873); replace hx873_0 := (HB.out.cell (World.block_lt_of_cell? w _ hx873_0)).trans hx873_0; replace hx873_1 := (HB.out.cell (World.block_lt_of_cell? w _ hx873_1)).trans hx873_1; replace hx873_2 := (HB.out.cell (World.block_lt_of_cell? w _ hx873_2)).trans hx873_2; replace p873 := eq_true p873; replace q873 := eq_true q873))
             go_roundg kj5
             case measure => have := HK1.out; have := HJ5.out; omega
             case rel => exact ⟨(y864), (y870), (x7_1), (x8_5), (wrap64 (x9_1 + 1)), EB, EB, H', ⟨by have := HK1.out; have := HJ5.out; omega⟩, ⟨RU HO_5.out⟩, ⟨RU HO872.out⟩, ⟨RU HO_7.out⟩, ⟨BU HB.out⟩⟩
           ·rw [if_neg c12] at H
            exact absurd H (by simp)
          ·rw [if_neg c11] at H
           have c11b0 : (((rd_T34 l0 x9_1).f0) == 1) = false := beq_eq_false_iff_ne.mpr c11
           have c11b1 : (((rd_T34 l0 x9_1).f0) != 1) = true := bne_iff_ne.mpr c11
           by_cases c18 : ((rd_T34 l0 x9_1).f0) = 2
           ·rw [if_pos c18] at H
            have c18b0 : (((rd_T34 l0 x9_1).f0) == 2) = true := beq_iff_eq.mpr c18
            have c18b1 : (((rd_T34 l0 x9_1).f0) != 2) = false := bne_eq_false_iff_eq.mpr c18
            clear c18
            by_cases c19 : x7_1.length < 8796093022208
            ·rw [if_pos c19] at H
             have LMc19 := Aside0.mk c19
             clear c19
             obtain ⟨y880, hy880⟩ : ∃ y_ : List ByteArray, y_ = (x7_1 ++ [(rd_T34 l0 x9_1).f2]) := ⟨_, rfl⟩
             replace H : (estreatref14_lay.l0 kj5 l0 a1 y864 x6_1 y880 x8_5 (wrap64 (x9_1 + 1))) = some r := by first | (rw [hy880]; with_reducible exact H) | (have H2_ := (Option.bind_some _ _).symm.trans H; rw [hy880]; with_reducible exact H2_) | (have H2_ := (Option.bind_some _ _).symm.trans H; with_reducible exact H2_) | with_reducible exact H | (rw [hy880]; exact H) | exact H
             have Ny880 := Aside0.mk hy880
             clear hy880
             have H' := Aside0.mk H
             clear H
             have p868 : 0 ≤ (x9_1 : Int) := OD
             have q868 : x9_1 < (l0.length : Int) := OD
             obtain ⟨ad868, e868, hx868_0, hx868_1, hx868_2⟩ := at_T34 HR0.out x9_1 p868 q868
             obtain rfl : ad863 = ad868 := (by injection e868)
             replace hx868_0 := (HB.out.cell (World.block_lt_of_cell? w _ hx868_0)).trans hx868_0
             replace hx868_1 := (HB.out.cell (World.block_lt_of_cell? w _ hx868_1)).trans hx868_1
             replace hx868_2 := (HB.out.cell (World.block_lt_of_cell? w _ hx868_2)).trans hx868_2
             replace p868 := eq_true p868
             replace q868 := eq_true q868
             have p878 : 0 ≤ (x9_1 : Int) := OD
             have q878 : x9_1 < (l0.length : Int) := OD
             obtain ⟨ad878, e878, hx878_0, hx878_1, hx878_2⟩ := at_T34 HR0.out x9_1 p878 q878
             obtain rfl : ad863 = ad878 := (by injection e878)
             replace hx878_0 := (HB.out.cell (World.block_lt_of_cell? w _ hx878_0)).trans hx878_0
             replace hx878_1 := (HB.out.cell (World.block_lt_of_cell? w _ hx878_1)).trans hx878_1
             replace hx878_2 := (HB.out.cell (World.block_lt_of_cell? w _ hx878_2)).trans hx878_2
             replace p878 := eq_true p878
             replace q878 := eq_true q878
             have p879 : 0 ≤ (x9_1 : Int) := OD
             have q879 : x9_1 < (l0.length : Int) := OD
             obtain ⟨ad879, e879, hx879_0, hx879_1, hx879_2⟩ := at_T34 HR0.out x9_1 p879 q879
             obtain rfl : ad863 = ad879 := (by injection e879)
             replace hx879_0 := (HB.out.cell (World.block_lt_of_cell? w _ hx879_0)).trans hx879_0
             replace hx879_1 := (HB.out.cell (World.block_lt_of_cell? w _ hx879_1)).trans hx879_1
             replace hx879_2 := (HB.out.cell (World.block_lt_of_cell? w _ hx879_2)).trans hx879_2
             replace p879 := eq_true p879
             replace q879 := eq_true q879
             go_wp2_with (first | ((with_reducible refine gate_builtin (b := .append) (xs := #[.tmp 55, .tmp 61]) rfl ?_); at_builtin; refine Kd.R_append Kd.string (w0 := w) w.heap.size rfl (.tmp 55) (.tmp 61) 42 9 (.string ⟨#[]⟩) 16 rfl Tryz.underlying42 info9 rfl (by decide) (by omega) u7 x7_1 ((rd_T34 l0 x9_1).f2) [.string ((rd_T34 l0 x9_1).f2)] (fun _ => True) (fun _ => False) rfl rfl ?aP (fun _ hk => hk.elim) ?aF ?aO ?aB ?aS ?aL ?_; (case aP => exact rfl); (case aB => exact (BU HB.out)); (case aF => exact (fun _ _ => trivial)); (case aO => exact (RU HO_7.out)); (case aS => exact (below_size (BU HB.out))); (case aL => have := LMc19.out; omega); intro v881 w20 ho hb hg hat; rw [← Ny880.out] at ho; have n0_ := Aside0.mk (Kd.R_over' (RU HO_5.out) (Kd.R_typed (RU HO_7.out)) (by decide) hg); have n1_ := Aside0.mk (Kd.R_over' (RU HO_6.out) (Kd.R_typed (RU HO_7.out)) (by decide) hg); have n2_ := Aside0.mk (hb); have n3_ := Aside0.mk (ho); clear HO_5 HO_6 HB HO_7; have HO_5 := n0_; have HO_6 := n1_; have HB := n2_; have HO882 := n3_; clear n0_ n1_ n2_ n3_; clear ho hb hg hat))
             go_roundg kj5
             case measure => have := HK1.out; have := HJ5.out; omega
             case rel => exact ⟨(y864), (x6_1), (y880), (x8_5), (wrap64 (x9_1 + 1)), EB, EB, H', ⟨by have := HK1.out; have := HJ5.out; omega⟩, ⟨RU HO_5.out⟩, ⟨RU HO_6.out⟩, ⟨RU HO882.out⟩, ⟨BU HB.out⟩⟩
            ·rw [if_neg c19] at H
             exact absurd H (by simp)
           ·rw [if_neg c18] at H
            have c18b0 : (((rd_T34 l0 x9_1).f0) == 2) = false := beq_eq_false_iff_ne.mpr c18
            have c18b1 : (((rd_T34 l0 x9_1).f0) != 2) = true := bne_iff_ne.mpr c18
            have H' := Aside0.mk H
            clear H
            have p868 : 0 ≤ (x9_1 : Int) := OD
            have q868 : x9_1 < (l0.length : Int) := OD
            obtain ⟨ad868, e868, hx868_0, hx868_1, hx868_2⟩ := at_T34 HR0.out x9_1 p868 q868
            obtain rfl : ad863 = ad868 := (by injection e868)
            replace hx868_0 := (HB.out.cell (World.block_lt_of_cell? w _ hx868_0)).trans hx868_0
            replace hx868_1 := (HB.out.cell (World.block_lt_of_cell? w _ hx868_1)).trans hx868_1
            replace hx868_2 := (HB.out.cell (World.block_lt_of_cell? w _ hx868_2)).trans hx868_2
            replace p868 := eq_true p868
            replace q868 := eq_true q868
            have p878 : 0 ≤ (x9_1 : Int) := OD
            have q878 : x9_1 < (l0.length : Int) := OD
            obtain ⟨ad878, e878, hx878_0, hx878_1, hx878_2⟩ := at_T34 HR0.out x9_1 p878 q878
            obtain rfl : ad863 = ad878 := (by injection e878)
            replace hx878_0 := (HB.out.cell (World.block_lt_of_cell? w _ hx878_0)).trans hx878_0
            replace hx878_1 := (HB.out.cell (World.block_lt_of_cell? w _ hx878_1)).trans hx878_1
            replace hx878_2 := (HB.out.cell (World.block_lt_of_cell? w _ hx878_2)).trans hx878_2
            replace p878 := eq_true p878
            replace q878 := eq_true q878
            go_wp2
            go_roundg kj5
            case measure => have := HK1.out; have := HJ5.out; omega
            case rel => exact ⟨(y864), (x6_1), (x7_1), (x8_5), (wrap64 (x9_1 + 1)), EB, EB, H', ⟨by have := HK1.out; have := HJ5.out; omega⟩, ⟨RU HO_5.out⟩, ⟨RU HO_6.out⟩, ⟨RU HO_7.out⟩, ⟨BU HB.out⟩⟩
         ·rw [if_neg c10] at H
          exact absurd H (by simp)
        ·rw [if_neg c9] at H
         exact absurd H (by simp)
     ·rw [if_neg c5] at H
      exact absurd H (by simp)
    ·rw [if_neg c4] at H
     exact absurd H (by simp)
   ·rw [if_neg c3] at H
    have c3b0 : decide (x9_1 < (l0.length : Int)) = false := decide_eq_false c3
    clear c3
    obtain ⟨y883, hy883⟩ : ∃ y_ : List Int, y_ = (([0] : List Int)) := ⟨_, rfl⟩
    replace H : (if x8_1 = true then ((some (([1] : List Int) : List Int)).bind fun y886 => ((estreatref07_Bytes.f k1 x5_1).bind fun t889 => (if y886.length + t889.length < 140737488355328 then (estreatref14_lay.j2 k1 a1 x6_1 x7_1 (y886 ++ t889)) else (none)))) else (estreatref14_lay.j2 k1 a1 x6_1 x7_1 y883)) = some r := by first | (rw [hy883]; with_reducible exact H) | (have H2_ := (Option.bind_some _ _).symm.trans H; rw [hy883]; with_reducible exact H2_) | (have H2_ := (Option.bind_some _ _).symm.trans H; with_reducible exact H2_) | with_reducible exact H | (rw [hy883]; exact H) | exact H
    have Ny883 := Aside0.mk hy883
    clear hy883
    have HC21 := Aside0.mk H
    clear H
    go_upto_if 64 with (first | ((with_reducible refine gate_dst (N := 63) rfl ?_); refine Kd.R_lit (Kd.int .u8) _ 5 ?hg (N := 63) ?hd (xs := ([0] : List Int)) (inner := [.int .u8 0]) (ok := fun _ => True) (okp := fun _ => True) ?hr ?hp (fun _ hk => hk) trivial (Below.refl _ _) (Nat.le_refl _) (by simp) ?_; (case hd => rfl); (case hg => rfl); (case hr => first | (go_simp; done) | (go_simp; rfl)); (case hp => exact (Reps.one (show Kd.M (Kd.int .u8) _ _ _ 0 [.int .u8 0] from rfl) (Reps.none _ _))); intro v884 w22 ho23 hb hg_ hnew_; clear hg_ hnew_; (first | rw [← Ny883.out] at ho23 | (simp only [Int.reduceToNat] at ho23; rw [← Ny883.out] at ho23)); have n0_ := Aside0.mk (Kd.R_below (RU HO_5.out) hb); have n1_ := Aside0.mk (Kd.R_below (RU HO_6.out) hb); have n2_ := Aside0.mk (Kd.R_below (RU HO_7.out) hb); have n3_ := Aside0.mk (Kd.R_lower ho23 (below_size (BU HB.out))); have n4_ := Aside0.mk (below_step (BU HB.out) hb); clear HO_5 HO_6 HO_7 HB; have HO_5 := n0_; have HO_6 := n1_; have HO_7 := n2_; have HO885 := n3_; have HB := n4_; clear n0_ n1_ n2_ n3_ n4_; clear hb ho23))
    (try simp only [Act.put, List.setIfInBounds_toArray, List.set_cons_zero, List.set_cons_succ])
    go_cut [10] (fun v10 wc => ∃ (kq : Nat) (x10_20 : List Int), Aside0 (estreatref14_lay.j2 kq a1 x6_1 x7_1 x10_20 = some r) ∧ Aside0 (kq ≤ k1) ∧ Aside0 (Kd.R (Kd.int .i64) 2 wc w.heap.size (fun _ => True) u6 x6_1) ∧ Aside0 (Kd.R Kd.string 9 wc w.heap.size (fun _ => True) u7 x7_1) ∧ Aside0 (Kd.R (Kd.int .u8) 5 wc w.heap.size (fun _ => True) v10 x10_20) ∧ Aside0 (Below w.heap.size w wc))
    case first =>
     have H := HC21.out
     clear HC21
     by_cases c24 : x8_1 = true
     ·subst c24
      have H1 : ((some (([1] : List Int) : List Int)).bind fun y886 => ((estreatref07_Bytes.f k1 x5_1).bind fun t889 => (if y886.length + t889.length < 140737488355328 then (estreatref14_lay.j2 k1 a1 x6_1 x7_1 (y886 ++ t889)) else (none)))) = some r := by rw [if_pos rfl] at H; exact H
      clear H
      have H := H1
      clear H1
      obtain ⟨y886, hy886⟩ : ∃ y_ : List Int, y_ = (([1] : List Int)) := ⟨_, rfl⟩
      replace H : ((estreatref07_Bytes.f k1 x5_1).bind fun t889 => (if y886.length + t889.length < 140737488355328 then (estreatref14_lay.j2 k1 a1 x6_1 x7_1 (y886 ++ t889)) else (none))) = some r := by first | (rw [hy886]; with_reducible exact H) | (have H2_ := (Option.bind_some _ _).symm.trans H; rw [hy886]; with_reducible exact H2_) | (have H2_ := (Option.bind_some _ _).symm.trans H; with_reducible exact H2_) | with_reducible exact H | (rw [hy886]; exact H) | exact H
      have Ny886 := Aside0.mk hy886
      clear hy886
      replace H := Option.bind_eq_some_iff.mp H
      obtain ⟨t889, A250, H⟩ := H
      replace H : (if y886.length + t889.length < 140737488355328 then (estreatref14_lay.j2 k1 a1 x6_1 x7_1 (y886 ++ t889)) else (none)) = some r := H
      have A25 := Aside0.mk A250
      clear A250
      by_cases c26 : y886.length + t889.length < 140737488355328
      ·rw [if_pos c26] at H
       have LMc26 := Aside0.mk c26
       clear c26
       obtain ⟨y892, hy892⟩ : ∃ y_ : List Int, y_ = (y886 ++ t889) := ⟨_, rfl⟩
       replace H : (estreatref14_lay.j2 k1 a1 x6_1 x7_1 y892) = some r := by first | (rw [hy892]; with_reducible exact H) | (have H2_ := (Option.bind_some _ _).symm.trans H; rw [hy892]; with_reducible exact H2_) | (have H2_ := (Option.bind_some _ _).symm.trans H; with_reducible exact H2_) | with_reducible exact H | (rw [hy892]; exact H) | exact H
       have Ny892 := Aside0.mk hy892
       clear hy892
       have H' := Aside0.mk H
       clear H
       go_wp2_with (first | ((with_reducible refine gate_dst (N := 65) rfl ?_); refine Kd.R_lit (Kd.int .u8) _ 5 ?hg (N := 65) ?hd (xs := ([1] : List Int)) (inner := [.int .u8 1]) (ok := fun _ => True) (okp := fun _ => True) ?hr ?hp (fun _ hk => hk) trivial (Below.refl _ _) (Nat.le_refl _) (by simp) ?_; (case hd => rfl); (case hg => rfl); (case hr => first | (go_simp; done) | (go_simp; rfl)); (case hp => exact (Reps.one (show Kd.M (Kd.int .u8) _ _ _ 1 [.int .u8 1] from rfl) (Reps.none _ _))); intro v887 w27 ho28 hb hg_ hnew_; clear hg_ hnew_; (first | rw [← Ny886.out] at ho28 | (simp only [Int.reduceToNat] at ho28; rw [← Ny886.out] at ho28)); have n0_ := Aside0.mk (Kd.R_below (RU HO_5.out) hb); have n1_ := Aside0.mk (Kd.R_below (RU HO_6.out) hb); have n2_ := Aside0.mk (Kd.R_below (RU HO_7.out) hb); have n3_ := Aside0.mk (Kd.R_elder' (RU HO885.out) (Kd.R_base ho28) hb); have n4_ := Aside0.mk (Kd.R_lower (Kd.R_new' ho28 (Kd.R_lt (RU HO885.out))) (below_size (BU HB.out))); have n5_ := Aside0.mk (below_step (BU HB.out) hb); clear HO_5 HO_6 HO_7 HO885 HB; have HO_5 := n0_; have HO_6 := n1_; have HO_7 := n2_; have HO885 := n3_; have HO888 := n4_; have HB := n5_; clear n0_ n1_ n2_ n3_ n4_ n5_; clear hb ho28; obtain ⟨Ao29, co29, eo29⟩ := Kd.R_slice HO_5.out; subst eo29) | ((with_reducible refine gate_callee (f := 25) rfl ?_); refine goesL_ (some 67) rfl rfl Tryz.func25 (by kernel_rfl) rfl #[.slice Ao29 x5_1.length co29] rfl EA ?_; (with_reducible refine (estreatref07_Bytes.calls k1 _ _ x5_1 t889 _ ?side1 ?side2 A25.out).mono ?_); (case side1 => exact CU ((Kd.R_reads' HO_5.out).2.2)); (case side2 => exact (Kd.R_reads' HO_5.out).2.1); rintro e w30 ⟨v890, rfl, ho0, hb⟩; refine ⟨_, rfl, ?_⟩; have n0_ := Aside0.mk (Kd.R_below (RU HO_5.out) hb); have n1_ := Aside0.mk (Kd.R_below (RU HO_6.out) hb); have n2_ := Aside0.mk (Kd.R_below (RU HO_7.out) hb); have n3_ := Aside0.mk (Kd.R_elder' (RU HO885.out) (Kd.R_base ho0) hb); have n4_ := Aside0.mk (Kd.R_elder' (RU HO888.out) (Kd.R_base ho0) hb); have n5_ := Aside0.mk (Kd.R_lower (Kd.R_new' (Kd.R_new' ho0 (Kd.R_lt (RU HO885.out))) (Kd.R_lt (RU HO888.out))) (below_size (BU HB.out))); have n6_ := Aside0.mk (below_step (BU HB.out) hb); clear HO_5 HO_6 HO_7 HO885 HO888 HB; have HO_5 := n0_; have HO_6 := n1_; have HO_7 := n2_; have HO885 := n3_; have HO888 := n4_; have HO891 := n5_; have HB := n6_; clear n0_ n1_ n2_ n3_ n4_ n5_ n6_; (try clear hb); (try clear hb2); (try clear hk); (try clear hi); (try clear ho0); obtain ⟨Ao32, co32, eo32⟩ := Kd.R_slice HO891.out; subst eo32) | ((with_reducible refine gate_builtin (b := .append) (xs := #[.tmp 65, .tmp 67]) rfl ?_); at_builtin; refine Kd.R_append_rows (Kd.int .u8) (w0 := w) w.heap.size rfl (.tmp 65) (.tmp 67) 25 5 (.int .u8 0) 1 rfl Tryz.underlying25 info5 rfl (by decide) (by omega) v887 y886 t889 _ _ _ (fun k_ => some k_ ≠ (v884 : Value).ownBlock ∧ some k_ ≠ (.slice Ao32 t889.length co32 : Value).ownBlock) (fun _ => False) rfl rfl ?aO ?aR (fun _ _ h => h) (fun _ h => h.elim) ?aF ?aB ?aS ?aL ?_; (case aR => exact CU ((Kd.R_reads' HO891.out).2.2)); (case aB => exact (BU HB.out)); (case aF => exact (fun k_ hk => ⟨Kd.fresh' (Kd.R_lt (RU HO885.out)) k_ hk, Kd.fresh' (Kd.R_lt (RU HO891.out)) k_ hk⟩)); (case aO => exact (RU (Kd.R_mono HO888.out (fun _ hk => ⟨hk.1.2, hk.2⟩)))); (case aS => exact (below_size (BU HB.out))); (case aL => have := LMc26.out; omega); intro v893 w31 ho hb hg hat; rw [← Ny892.out] at ho; have n0_ := Aside0.mk (Kd.R_over' (RU HO_5.out) (Kd.R_typed (RU HO888.out)) (by decide) hg); have n1_ := Aside0.mk (Kd.R_over' (RU HO_6.out) (Kd.R_typed (RU HO888.out)) (by decide) hg); have n2_ := Aside0.mk (Kd.R_over' (RU HO_7.out) (Kd.R_typed (RU HO888.out)) (by decide) hg); have n3_ := Aside0.mk (Kd.R_after (ok := (fun k_ => some k_ ≠ (.slice Ao32 t889.length co32 : Value).ownBlock)) (RU (Kd.R_mono HO885.out (fun _ hk => ⟨hk.2, hk.1.2⟩))) hg hat); have n4_ := Aside0.mk (Kd.R_after (ok := (fun k_ => some k_ ≠ (v884 : Value).ownBlock)) (RU (Kd.R_mono HO891.out (fun _ hk => ⟨hk.1.2, hk.2⟩))) hg hat); have n5_ := Aside0.mk (hb); have n6_ := Aside0.mk (ho); clear HO_5 HO_6 HO_7 HO885 HO891 HB HO888; have HO_5 := n0_; have HO_6 := n1_; have HO_7 := n2_; have HO885 := n3_; have HO891 := n4_; have HB := n5_; have HO894 := n6_; clear n0_ n1_ n2_ n3_ n4_ n5_ n6_; clear ho hb hg hat))
       go_meet
       case rel => exact ⟨_, (y892), H', ⟨by have := HK1.out; first | omega | exact Nat.le_refl _⟩, ⟨RU HO_6.out⟩, ⟨RU HO_7.out⟩, ⟨RU (Kd.R_mono HO894.out (fun _ hk => trivial))⟩, ⟨BU HB.out⟩⟩
      ·rw [if_neg c26] at H
       exact absurd H (by simp)
     ·replace c24 := Bool.eq_false_iff.mpr c24
      subst c24
      have H1 : (estreatref14_lay.j2 k1 a1 x6_1 x7_1 y883) = some r := by rw [if_neg (show ¬ (false = true) by decide)] at H; exact H
      clear H
      have H := H1
      clear H1
      have H' := Aside0.mk H
      clear H
      go_wp2
      go_meet
      case rel => exact ⟨_, (y883), H', ⟨by have := HK1.out; first | omega | exact Nat.le_refl _⟩, ⟨RU HO_6.out⟩, ⟨RU HO_7.out⟩, ⟨RU HO885.out⟩, ⟨BU HB.out⟩⟩
    case rest =>
     clear HC21
     try clear c1
     try clear c2
     try clear p2
     try clear c3
     try clear c3b0
     try clear c4
     try clear c4b0
     try clear c5
     try clear p6
     try clear c8
     try clear p8
     try clear q8
     try clear hx8
     try clear c9
     try clear c9b0
     try clear c10
     try clear c10b0
     try clear c11
     try clear c11b0
     try clear c11b1
     try clear c12
     try clear c13
     try clear c13b0
     try clear c13b1
     try clear c14
     try clear c17
     try clear c18
     try clear c18b0
     try clear c18b1
     try clear c19
     try clear c24
     try clear c25
     try clear c26
     try clear hx863_0
     try clear hx863_1
     try clear hx863_2
     try clear hx867_0
     try clear hx867_1
     try clear hx867_2
     try clear hx868_0
     try clear hx868_1
     try clear hx868_2
     try clear hx869_0
     try clear hx869_1
     try clear hx869_2
     try clear hx873_0
     try clear hx873_1
     try clear hx873_2
     try clear hx874_0
     try clear hx874_1
     try clear hx874_2
     try clear hx878_0
     try clear hx878_1
     try clear hx878_2
     try clear hx879_0
     try clear hx879_1
     try clear hx879_2
     try clear p2
     try clear p8
     try clear p863
     try clear p867
     try clear p868
     try clear p869
     try clear p873
     try clear p874
     try clear p878
     try clear p879
     try clear q8
     try clear q863
     try clear q867
     try clear q868
     try clear q869
     try clear q873
     try clear q874
     try clear q878
     try clear q879
     obtain ⟨kq, x10_20, HA, HJ20, HO_6, HO_7, HO_10, HB⟩ := hcut
     cases kq with
     | zero => exact absurd HA.out (by simp [estreatref14_lay.j2])
     | succ kj20 =>
      have H := HA.out
      clear HA
      simp only [estreatref14_lay.j2] at H
      by_cases c33 : x10_20.length < 140737488355328
      ·rw [if_pos c33] at H
       have LMc33 := Aside0.mk c33
       clear c33
       obtain ⟨y895, hy895⟩ : ∃ y_ : List Int, y_ = (x10_20 ++ [(a1) % 256]) := ⟨_, rfl⟩
       replace H : (if a1 = 0 then ((estreatref08_Put.f kj20 x6_1).bind fun t898 => (if y895.length + t898.length < 140737488355328 then (some (y895 ++ t898)) else (none))) else (if a1 = 1 then ((estreatref09_Put.f kj20 x6_1).bind fun t904 => (if y895.length + t904.length < 140737488355328 then (some (y895 ++ t904)) else (none))) else (if a1 = 2 then ((estreatref10_Put.f kj20 x6_1).bind fun t910 => (if y895.length + t910.length < 140737488355328 then (some (y895 ++ t910)) else (none))) else (if a1 = 3 then ((estreatref11_Put.f kj20 x6_1).bind fun t916 => (if y895.length + t916.length < 140737488355328 then (some (y895 ++ t916)) else (none))) else (if a1 = 4 then ((estreatref12_Put.f kj20 x6_1).bind fun t922 => (if y895.length + t922.length < 140737488355328 then (some (y895 ++ t922)) else (none))) else ((estreatref13_Put.f kj20 x7_1).bind fun t928 => (if y895.length + t928.length < 140737488355328 then (some (y895 ++ t928)) else (none)))))))) = some r := by first | (rw [hy895]; with_reducible exact H) | (have H2_ := (Option.bind_some _ _).symm.trans H; rw [hy895]; with_reducible exact H2_) | (have H2_ := (Option.bind_some _ _).symm.trans H; with_reducible exact H2_) | with_reducible exact H | (rw [hy895]; exact H) | exact H
       have Ny895 := Aside0.mk hy895
       clear hy895
       by_cases c34 : a1 = 0
       ·rw [if_pos c34] at H
        have c34b0 : (a1 == 0) = true := beq_iff_eq.mpr c34
        have c34b1 : (a1 != 0) = false := bne_eq_false_iff_eq.mpr c34
        clear c34
        replace H := Option.bind_eq_some_iff.mp H
        obtain ⟨t898, A350, H⟩ := H
        replace H : (if y895.length + t898.length < 140737488355328 then (some (y895 ++ t898)) else (none)) = some r := H
        have A35 := Aside0.mk A350
        clear A350
        by_cases c36 : y895.length + t898.length < 140737488355328
        ·rw [if_pos c36] at H
         have LMc36 := Aside0.mk c36
         clear c36
         obtain ⟨y901, hy901⟩ : ∃ y_ : List Int, y_ = (y895 ++ t898) := ⟨_, rfl⟩
         replace H : (some y901) = some r := by first | (rw [hy901]; with_reducible exact H) | (have H2_ := (Option.bind_some _ _).symm.trans H; rw [hy901]; with_reducible exact H2_) | (have H2_ := (Option.bind_some _ _).symm.trans H; with_reducible exact H2_) | with_reducible exact H | (rw [hy901]; exact H) | exact H
         have Ny901 := Aside0.mk hy901
         clear hy901
         obtain rfl := Option.some.inj H
         go_wp2_with (first | ((with_reducible refine gate_builtin (b := .append) (xs := #[.tmp 69, .tmp 72]) rfl ?_); at_builtin; refine Kd.R_append (Kd.int .u8) (w0 := w) w.heap.size rfl (.tmp 69) (.tmp 72) 25 5 (.int .u8 0) 1 rfl Tryz.underlying25 info5 rfl (by decide) (by omega) u10 x10_20 ((a1) % 256) [.int .u8 ((a1) % 256)] (fun _ => True) (fun _ => False) rfl rfl ?aP (fun _ hk => hk.elim) ?aF ?aO ?aB ?aS ?aL ?_; (case aP => exact rfl); (case aB => exact (BU HB.out)); (case aF => exact (fun _ _ => trivial)); (case aO => exact (RU HO_10.out)); (case aS => exact (below_size (BU HB.out))); (case aL => have := LMc33.out; omega); intro v896 w37 ho hb hg hat; rw [← Ny895.out] at ho; have n0_ := Aside0.mk (Kd.R_over' (RU HO_6.out) (Kd.R_typed (RU HO_10.out)) (by decide) hg); have n1_ := Aside0.mk (Kd.R_over' (RU HO_7.out) (Kd.R_typed (RU HO_10.out)) (by decide) hg); have n2_ := Aside0.mk (hb); have n3_ := Aside0.mk (ho); clear HO_6 HO_7 HB HO_10; have HO_6 := n0_; have HO_7 := n1_; have HB := n2_; have HO897 := n3_; clear n0_ n1_ n2_ n3_; clear ho hb hg hat; obtain ⟨Ao38, co38, eo38⟩ := Kd.R_slice HO_6.out; subst eo38) | ((with_reducible refine gate_callee (f := 26) rfl ?_); refine goesL_ (some 79) rfl rfl Tryz.func26 (by kernel_rfl) rfl #[.slice Ao38 x6_1.length co38] rfl EA ?_; (with_reducible refine (estreatref08_Put.calls kj20 _ _ x6_1 t898 _ ?side1 ?side2 A35.out).mono ?_); (case side1 => exact CU ((Kd.R_reads' HO_6.out).2.2)); (case side2 => exact (Kd.R_reads' HO_6.out).2.1); rintro e w39 ⟨v899, rfl, ho0, hb⟩; refine ⟨_, rfl, ?_⟩; have n0_ := Aside0.mk (Kd.R_below (RU HO_6.out) hb); have n1_ := Aside0.mk (Kd.R_below (RU HO_7.out) hb); have n2_ := Aside0.mk (Kd.R_elder' (RU HO897.out) (Kd.R_base ho0) hb); have n3_ := Aside0.mk (Kd.R_lower (Kd.R_new' ho0 (Kd.R_lt (RU HO897.out))) (below_size (BU HB.out))); have n4_ := Aside0.mk (below_step (BU HB.out) hb); clear HO_6 HO_7 HO897 HB; have HO_6 := n0_; have HO_7 := n1_; have HO897 := n2_; have HO900 := n3_; have HB := n4_; clear n0_ n1_ n2_ n3_ n4_; (try clear hb); (try clear hb2); (try clear hk); (try clear hi); (try clear ho0); obtain ⟨Ao41, co41, eo41⟩ := Kd.R_slice HO900.out; subst eo41) | ((with_reducible refine gate_builtin (b := .append) (xs := #[.tmp 77, .tmp 79]) rfl ?_); at_builtin; refine Kd.R_append_rows (Kd.int .u8) (w0 := w) w.heap.size rfl (.tmp 77) (.tmp 79) 25 5 (.int .u8 0) 1 rfl Tryz.underlying25 info5 rfl (by decide) (by omega) v896 y895 t898 _ _ _ (fun k_ => some k_ ≠ (.slice Ao41 t898.length co41 : Value).ownBlock) (fun _ => False) rfl rfl ?aO ?aR (fun _ _ h => h) (fun _ h => h.elim) ?aF ?aB ?aS ?aL ?_; (case aR => exact CU ((Kd.R_reads' HO900.out).2.2)); (case aB => exact (BU HB.out)); (case aF => exact (fun k_ hk => Kd.fresh' (Kd.R_lt (RU HO900.out)) k_ hk)); (case aO => exact (RU (Kd.R_mono HO897.out (fun _ hk => hk.2)))); (case aS => exact (below_size (BU HB.out))); (case aL => have := LMc36.out; omega); intro v902 w40 ho hb hg hat; rw [← Ny901.out] at ho; have n0_ := Aside0.mk (Kd.R_over' (RU HO_6.out) (Kd.R_typed (RU HO897.out)) (by decide) hg); have n1_ := Aside0.mk (Kd.R_over' (RU HO_7.out) (Kd.R_typed (RU HO897.out)) (by decide) hg); have n2_ := Aside0.mk (Kd.R_after (ok := (fun _ => True)) (RU HO900.out) hg hat); have n3_ := Aside0.mk (hb); have n4_ := Aside0.mk (ho); clear HO_6 HO_7 HO900 HB HO897; have HO_6 := n0_; have HO_7 := n1_; have HO900 := n2_; have HB := n3_; have HO903 := n4_; clear n0_ n1_ n2_ n3_ n4_; clear ho hb hg hat))
         go_ret
         exact ⟨_, by first | rfl | (simp [errW_none, errW_some] <;> rfl) | (simp [*, errW_none, errW_some] <;> rfl), RU (Kd.R_mono HO903.out (fun _ hk => trivial)), BU HB.out⟩
        ·rw [if_neg c36] at H
         exact absurd H (by simp)
       ·rw [if_neg c34] at H
        have c34b0 : (a1 == 0) = false := beq_eq_false_iff_ne.mpr c34
        have c34b1 : (a1 != 0) = true := bne_iff_ne.mpr c34
        by_cases c42 : a1 = 1
        ·rw [if_pos c42] at H
         have c42b0 : (a1 == 1) = true := beq_iff_eq.mpr c42
         have c42b1 : (a1 != 1) = false := bne_eq_false_iff_eq.mpr c42
         clear c42
         replace H := Option.bind_eq_some_iff.mp H
         obtain ⟨t904, A430, H⟩ := H
         replace H : (if y895.length + t904.length < 140737488355328 then (some (y895 ++ t904)) else (none)) = some r := H
         have A43 := Aside0.mk A430
         clear A430
         by_cases c44 : y895.length + t904.length < 140737488355328
         ·rw [if_pos c44] at H
          have LMc44 := Aside0.mk c44
          clear c44
          obtain ⟨y907, hy907⟩ : ∃ y_ : List Int, y_ = (y895 ++ t904) := ⟨_, rfl⟩
          replace H : (some y907) = some r := by first | (rw [hy907]; with_reducible exact H) | (have H2_ := (Option.bind_some _ _).symm.trans H; rw [hy907]; with_reducible exact H2_) | (have H2_ := (Option.bind_some _ _).symm.trans H; with_reducible exact H2_) | with_reducible exact H | (rw [hy907]; exact H) | exact H
          have Ny907 := Aside0.mk hy907
          clear hy907
          obtain rfl := Option.some.inj H
          go_wp2_with (first | ((with_reducible refine gate_builtin (b := .append) (xs := #[.tmp 69, .tmp 72]) rfl ?_); at_builtin; refine Kd.R_append (Kd.int .u8) (w0 := w) w.heap.size rfl (.tmp 69) (.tmp 72) 25 5 (.int .u8 0) 1 rfl Tryz.underlying25 info5 rfl (by decide) (by omega) u10 x10_20 ((a1) % 256) [.int .u8 ((a1) % 256)] (fun _ => True) (fun _ => False) rfl rfl ?aP (fun _ hk => hk.elim) ?aF ?aO ?aB ?aS ?aL ?_; (case aP => exact rfl); (case aB => exact (BU HB.out)); (case aF => exact (fun _ _ => trivial)); (case aO => exact (RU HO_10.out)); (case aS => exact (below_size (BU HB.out))); (case aL => have := LMc33.out; omega); intro v896 w45 ho hb hg hat; rw [← Ny895.out] at ho; have n0_ := Aside0.mk (Kd.R_over' (RU HO_6.out) (Kd.R_typed (RU HO_10.out)) (by decide) hg); have n1_ := Aside0.mk (Kd.R_over' (RU HO_7.out) (Kd.R_typed (RU HO_10.out)) (by decide) hg); have n2_ := Aside0.mk (hb); have n3_ := Aside0.mk (ho); clear HO_6 HO_7 HB HO_10; have HO_6 := n0_; have HO_7 := n1_; have HB := n2_; have HO897 := n3_; clear n0_ n1_ n2_ n3_; clear ho hb hg hat; obtain ⟨Ao46, co46, eo46⟩ := Kd.R_slice HO_6.out; subst eo46) | ((with_reducible refine gate_callee (f := 27) rfl ?_); refine goesL_ (some 85) rfl rfl Tryz.func27 (by kernel_rfl) rfl #[.slice Ao46 x6_1.length co46] rfl EA ?_; (with_reducible refine (estreatref09_Put.calls kj20 _ _ x6_1 t904 _ ?side1 ?side2 A43.out).mono ?_); (case side1 => exact CU ((Kd.R_reads' HO_6.out).2.2)); (case side2 => exact (Kd.R_reads' HO_6.out).2.1); rintro e w47 ⟨v905, rfl, ho0, hb⟩; refine ⟨_, rfl, ?_⟩; have n0_ := Aside0.mk (Kd.R_below (RU HO_6.out) hb); have n1_ := Aside0.mk (Kd.R_below (RU HO_7.out) hb); have n2_ := Aside0.mk (Kd.R_elder' (RU HO897.out) (Kd.R_base ho0) hb); have n3_ := Aside0.mk (Kd.R_lower (Kd.R_new' ho0 (Kd.R_lt (RU HO897.out))) (below_size (BU HB.out))); have n4_ := Aside0.mk (below_step (BU HB.out) hb); clear HO_6 HO_7 HO897 HB; have HO_6 := n0_; have HO_7 := n1_; have HO897 := n2_; have HO906 := n3_; have HB := n4_; clear n0_ n1_ n2_ n3_ n4_; (try clear hb); (try clear hb2); (try clear hk); (try clear hi); (try clear ho0); obtain ⟨Ao49, co49, eo49⟩ := Kd.R_slice HO906.out; subst eo49) | ((with_reducible refine gate_builtin (b := .append) (xs := #[.tmp 83, .tmp 85]) rfl ?_); at_builtin; refine Kd.R_append_rows (Kd.int .u8) (w0 := w) w.heap.size rfl (.tmp 83) (.tmp 85) 25 5 (.int .u8 0) 1 rfl Tryz.underlying25 info5 rfl (by decide) (by omega) v896 y895 t904 _ _ _ (fun k_ => some k_ ≠ (.slice Ao49 t904.length co49 : Value).ownBlock) (fun _ => False) rfl rfl ?aO ?aR (fun _ _ h => h) (fun _ h => h.elim) ?aF ?aB ?aS ?aL ?_; (case aR => exact CU ((Kd.R_reads' HO906.out).2.2)); (case aB => exact (BU HB.out)); (case aF => exact (fun k_ hk => Kd.fresh' (Kd.R_lt (RU HO906.out)) k_ hk)); (case aO => exact (RU (Kd.R_mono HO897.out (fun _ hk => hk.2)))); (case aS => exact (below_size (BU HB.out))); (case aL => have := LMc44.out; omega); intro v908 w48 ho hb hg hat; rw [← Ny907.out] at ho; have n0_ := Aside0.mk (Kd.R_over' (RU HO_6.out) (Kd.R_typed (RU HO897.out)) (by decide) hg); have n1_ := Aside0.mk (Kd.R_over' (RU HO_7.out) (Kd.R_typed (RU HO897.out)) (by decide) hg); have n2_ := Aside0.mk (Kd.R_after (ok := (fun _ => True)) (RU HO906.out) hg hat); have n3_ := Aside0.mk (hb); have n4_ := Aside0.mk (ho); clear HO_6 HO_7 HO906 HB HO897; have HO_6 := n0_; have HO_7 := n1_; have HO906 := n2_; have HB := n3_; have HO909 := n4_; clear n0_ n1_ n2_ n3_ n4_; clear ho hb hg hat))
          go_ret
          exact ⟨_, by first | rfl | (simp [errW_none, errW_some] <;> rfl) | (simp [*, errW_none, errW_some] <;> rfl), RU (Kd.R_mono HO909.out (fun _ hk => trivial)), BU HB.out⟩
         ·rw [if_neg c44] at H
          exact absurd H (by simp)
        ·rw [if_neg c42] at H
         have c42b0 : (a1 == 1) = false := beq_eq_false_iff_ne.mpr c42
         have c42b1 : (a1 != 1) = true := bne_iff_ne.mpr c42
         by_cases c50 : a1 = 2
         ·rw [if_pos c50] at H
          have c50b0 : (a1 == 2) = true := beq_iff_eq.mpr c50
          have c50b1 : (a1 != 2) = false := bne_eq_false_iff_eq.mpr c50
          clear c50
          replace H := Option.bind_eq_some_iff.mp H
          obtain ⟨t910, A510, H⟩ := H
          replace H : (if y895.length + t910.length < 140737488355328 then (some (y895 ++ t910)) else (none)) = some r := H
          have A51 := Aside0.mk A510
          clear A510
          by_cases c52 : y895.length + t910.length < 140737488355328
          ·rw [if_pos c52] at H
           have LMc52 := Aside0.mk c52
           clear c52
           obtain ⟨y913, hy913⟩ : ∃ y_ : List Int, y_ = (y895 ++ t910) := ⟨_, rfl⟩
           replace H : (some y913) = some r := by first | (rw [hy913]; with_reducible exact H) | (have H2_ := (Option.bind_some _ _).symm.trans H; rw [hy913]; with_reducible exact H2_) | (have H2_ := (Option.bind_some _ _).symm.trans H; with_reducible exact H2_) | with_reducible exact H | (rw [hy913]; exact H) | exact H
           have Ny913 := Aside0.mk hy913
           clear hy913
           obtain rfl := Option.some.inj H
           go_wp2_with (first | ((with_reducible refine gate_builtin (b := .append) (xs := #[.tmp 69, .tmp 72]) rfl ?_); at_builtin; refine Kd.R_append (Kd.int .u8) (w0 := w) w.heap.size rfl (.tmp 69) (.tmp 72) 25 5 (.int .u8 0) 1 rfl Tryz.underlying25 info5 rfl (by decide) (by omega) u10 x10_20 ((a1) % 256) [.int .u8 ((a1) % 256)] (fun _ => True) (fun _ => False) rfl rfl ?aP (fun _ hk => hk.elim) ?aF ?aO ?aB ?aS ?aL ?_; (case aP => exact rfl); (case aB => exact (BU HB.out)); (case aF => exact (fun _ _ => trivial)); (case aO => exact (RU HO_10.out)); (case aS => exact (below_size (BU HB.out))); (case aL => have := LMc33.out; omega); intro v896 w53 ho hb hg hat; rw [← Ny895.out] at ho; have n0_ := Aside0.mk (Kd.R_over' (RU HO_6.out) (Kd.R_typed (RU HO_10.out)) (by decide) hg); have n1_ := Aside0.mk (Kd.R_over' (RU HO_7.out) (Kd.R_typed (RU HO_10.out)) (by decide) hg); have n2_ := Aside0.mk (hb); have n3_ := Aside0.mk (ho); clear HO_6 HO_7 HB HO_10; have HO_6 := n0_; have HO_7 := n1_; have HB := n2_; have HO897 := n3_; clear n0_ n1_ n2_ n3_; clear ho hb hg hat; obtain ⟨Ao54, co54, eo54⟩ := Kd.R_slice HO_6.out; subst eo54) | ((with_reducible refine gate_callee (f := 28) rfl ?_); refine goesL_ (some 91) rfl rfl Tryz.func28 (by kernel_rfl) rfl #[.slice Ao54 x6_1.length co54] rfl EA ?_; (with_reducible refine (estreatref10_Put.calls kj20 _ _ x6_1 t910 _ ?side1 ?side2 A51.out).mono ?_); (case side1 => exact CU ((Kd.R_reads' HO_6.out).2.2)); (case side2 => exact (Kd.R_reads' HO_6.out).2.1); rintro e w55 ⟨v911, rfl, ho0, hb⟩; refine ⟨_, rfl, ?_⟩; have n0_ := Aside0.mk (Kd.R_below (RU HO_6.out) hb); have n1_ := Aside0.mk (Kd.R_below (RU HO_7.out) hb); have n2_ := Aside0.mk (Kd.R_elder' (RU HO897.out) (Kd.R_base ho0) hb); have n3_ := Aside0.mk (Kd.R_lower (Kd.R_new' ho0 (Kd.R_lt (RU HO897.out))) (below_size (BU HB.out))); have n4_ := Aside0.mk (below_step (BU HB.out) hb); clear HO_6 HO_7 HO897 HB; have HO_6 := n0_; have HO_7 := n1_; have HO897 := n2_; have HO912 := n3_; have HB := n4_; clear n0_ n1_ n2_ n3_ n4_; (try clear hb); (try clear hb2); (try clear hk); (try clear hi); (try clear ho0); obtain ⟨Ao57, co57, eo57⟩ := Kd.R_slice HO912.out; subst eo57) | ((with_reducible refine gate_builtin (b := .append) (xs := #[.tmp 89, .tmp 91]) rfl ?_); at_builtin; refine Kd.R_append_rows (Kd.int .u8) (w0 := w) w.heap.size rfl (.tmp 89) (.tmp 91) 25 5 (.int .u8 0) 1 rfl Tryz.underlying25 info5 rfl (by decide) (by omega) v896 y895 t910 _ _ _ (fun k_ => some k_ ≠ (.slice Ao57 t910.length co57 : Value).ownBlock) (fun _ => False) rfl rfl ?aO ?aR (fun _ _ h => h) (fun _ h => h.elim) ?aF ?aB ?aS ?aL ?_; (case aR => exact CU ((Kd.R_reads' HO912.out).2.2)); (case aB => exact (BU HB.out)); (case aF => exact (fun k_ hk => Kd.fresh' (Kd.R_lt (RU HO912.out)) k_ hk)); (case aO => exact (RU (Kd.R_mono HO897.out (fun _ hk => hk.2)))); (case aS => exact (below_size (BU HB.out))); (case aL => have := LMc52.out; omega); intro v914 w56 ho hb hg hat; rw [← Ny913.out] at ho; have n0_ := Aside0.mk (Kd.R_over' (RU HO_6.out) (Kd.R_typed (RU HO897.out)) (by decide) hg); have n1_ := Aside0.mk (Kd.R_over' (RU HO_7.out) (Kd.R_typed (RU HO897.out)) (by decide) hg); have n2_ := Aside0.mk (Kd.R_after (ok := (fun _ => True)) (RU HO912.out) hg hat); have n3_ := Aside0.mk (hb); have n4_ := Aside0.mk (ho); clear HO_6 HO_7 HO912 HB HO897; have HO_6 := n0_; have HO_7 := n1_; have HO912 := n2_; have HB := n3_; have HO915 := n4_; clear n0_ n1_ n2_ n3_ n4_; clear ho hb hg hat))
           go_ret
           exact ⟨_, by first | rfl | (simp [errW_none, errW_some] <;> rfl) | (simp [*, errW_none, errW_some] <;> rfl), RU (Kd.R_mono HO915.out (fun _ hk => trivial)), BU HB.out⟩
          ·rw [if_neg c52] at H
           exact absurd H (by simp)
         ·rw [if_neg c50] at H
          have c50b0 : (a1 == 2) = false := beq_eq_false_iff_ne.mpr c50
          have c50b1 : (a1 != 2) = true := bne_iff_ne.mpr c50
          by_cases c58 : a1 = 3
          ·rw [if_pos c58] at H
           have c58b0 : (a1 == 3) = true := beq_iff_eq.mpr c58
           have c58b1 : (a1 != 3) = false := bne_eq_false_iff_eq.mpr c58
           clear c58
           replace H := Option.bind_eq_some_iff.mp H
           obtain ⟨t916, A590, H⟩ := H
           replace H : (if y895.length + t916.length < 140737488355328 then (some (y895 ++ t916)) else (none)) = some r := H
           have A59 := Aside0.mk A590
           clear A590
           by_cases c60 : y895.length + t916.length < 140737488355328
           ·rw [if_pos c60] at H
            have LMc60 := Aside0.mk c60
            clear c60
            obtain ⟨y919, hy919⟩ : ∃ y_ : List Int, y_ = (y895 ++ t916) := ⟨_, rfl⟩
            replace H : (some y919) = some r := by first | (rw [hy919]; with_reducible exact H) | (have H2_ := (Option.bind_some _ _).symm.trans H; rw [hy919]; with_reducible exact H2_) | (have H2_ := (Option.bind_some _ _).symm.trans H; with_reducible exact H2_) | with_reducible exact H | (rw [hy919]; exact H) | exact H
            have Ny919 := Aside0.mk hy919
            clear hy919
            obtain rfl := Option.some.inj H
            go_wp2_with (first | ((with_reducible refine gate_builtin (b := .append) (xs := #[.tmp 69, .tmp 72]) rfl ?_); at_builtin; refine Kd.R_append (Kd.int .u8) (w0 := w) w.heap.size rfl (.tmp 69) (.tmp 72) 25 5 (.int .u8 0) 1 rfl Tryz.underlying25 info5 rfl (by decide) (by omega) u10 x10_20 ((a1) % 256) [.int .u8 ((a1) % 256)] (fun _ => True) (fun _ => False) rfl rfl ?aP (fun _ hk => hk.elim) ?aF ?aO ?aB ?aS ?aL ?_; (case aP => exact rfl); (case aB => exact (BU HB.out)); (case aF => exact (fun _ _ => trivial)); (case aO => exact (RU HO_10.out)); (case aS => exact (below_size (BU HB.out))); (case aL => have := LMc33.out; omega); intro v896 w61 ho hb hg hat; rw [← Ny895.out] at ho; have n0_ := Aside0.mk (Kd.R_over' (RU HO_6.out) (Kd.R_typed (RU HO_10.out)) (by decide) hg); have n1_ := Aside0.mk (Kd.R_over' (RU HO_7.out) (Kd.R_typed (RU HO_10.out)) (by decide) hg); have n2_ := Aside0.mk (hb); have n3_ := Aside0.mk (ho); clear HO_6 HO_7 HB HO_10; have HO_6 := n0_; have HO_7 := n1_; have HB := n2_; have HO897 := n3_; clear n0_ n1_ n2_ n3_; clear ho hb hg hat; obtain ⟨Ao62, co62, eo62⟩ := Kd.R_slice HO_6.out; subst eo62) | ((with_reducible refine gate_callee (f := 29) rfl ?_); refine goesL_ (some 97) rfl rfl Tryz.func29 (by kernel_rfl) rfl #[.slice Ao62 x6_1.length co62] rfl EA ?_; (with_reducible refine (estreatref11_Put.calls kj20 _ _ x6_1 t916 _ ?side1 ?side2 A59.out).mono ?_); (case side1 => exact CU ((Kd.R_reads' HO_6.out).2.2)); (case side2 => exact (Kd.R_reads' HO_6.out).2.1); rintro e w63 ⟨v917, rfl, ho0, hb⟩; refine ⟨_, rfl, ?_⟩; have n0_ := Aside0.mk (Kd.R_below (RU HO_6.out) hb); have n1_ := Aside0.mk (Kd.R_below (RU HO_7.out) hb); have n2_ := Aside0.mk (Kd.R_elder' (RU HO897.out) (Kd.R_base ho0) hb); have n3_ := Aside0.mk (Kd.R_lower (Kd.R_new' ho0 (Kd.R_lt (RU HO897.out))) (below_size (BU HB.out))); have n4_ := Aside0.mk (below_step (BU HB.out) hb); clear HO_6 HO_7 HO897 HB; have HO_6 := n0_; have HO_7 := n1_; have HO897 := n2_; have HO918 := n3_; have HB := n4_; clear n0_ n1_ n2_ n3_ n4_; (try clear hb); (try clear hb2); (try clear hk); (try clear hi); (try clear ho0); obtain ⟨Ao65, co65, eo65⟩ := Kd.R_slice HO918.out; subst eo65) | ((with_reducible refine gate_builtin (b := .append) (xs := #[.tmp 95, .tmp 97]) rfl ?_); at_builtin; refine Kd.R_append_rows (Kd.int .u8) (w0 := w) w.heap.size rfl (.tmp 95) (.tmp 97) 25 5 (.int .u8 0) 1 rfl Tryz.underlying25 info5 rfl (by decide) (by omega) v896 y895 t916 _ _ _ (fun k_ => some k_ ≠ (.slice Ao65 t916.length co65 : Value).ownBlock) (fun _ => False) rfl rfl ?aO ?aR (fun _ _ h => h) (fun _ h => h.elim) ?aF ?aB ?aS ?aL ?_; (case aR => exact CU ((Kd.R_reads' HO918.out).2.2)); (case aB => exact (BU HB.out)); (case aF => exact (fun k_ hk => Kd.fresh' (Kd.R_lt (RU HO918.out)) k_ hk)); (case aO => exact (RU (Kd.R_mono HO897.out (fun _ hk => hk.2)))); (case aS => exact (below_size (BU HB.out))); (case aL => have := LMc60.out; omega); intro v920 w64 ho hb hg hat; rw [← Ny919.out] at ho; have n0_ := Aside0.mk (Kd.R_over' (RU HO_6.out) (Kd.R_typed (RU HO897.out)) (by decide) hg); have n1_ := Aside0.mk (Kd.R_over' (RU HO_7.out) (Kd.R_typed (RU HO897.out)) (by decide) hg); have n2_ := Aside0.mk (Kd.R_after (ok := (fun _ => True)) (RU HO918.out) hg hat); have n3_ := Aside0.mk (hb); have n4_ := Aside0.mk (ho); clear HO_6 HO_7 HO918 HB HO897; have HO_6 := n0_; have HO_7 := n1_; have HO918 := n2_; have HB := n3_; have HO921 := n4_; clear n0_ n1_ n2_ n3_ n4_; clear ho hb hg hat))
            go_ret
            exact ⟨_, by first | rfl | (simp [errW_none, errW_some] <;> rfl) | (simp [*, errW_none, errW_some] <;> rfl), RU (Kd.R_mono HO921.out (fun _ hk => trivial)), BU HB.out⟩
           ·rw [if_neg c60] at H
            exact absurd H (by simp)
          ·rw [if_neg c58] at H
           have c58b0 : (a1 == 3) = false := beq_eq_false_iff_ne.mpr c58
           have c58b1 : (a1 != 3) = true := bne_iff_ne.mpr c58
           by_cases c66 : a1 = 4
           ·rw [if_pos c66] at H
            have c66b0 : (a1 == 4) = true := beq_iff_eq.mpr c66
            have c66b1 : (a1 != 4) = false := bne_eq_false_iff_eq.mpr c66
            clear c66
            replace H := Option.bind_eq_some_iff.mp H
            obtain ⟨t922, A670, H⟩ := H
            replace H : (if y895.length + t922.length < 140737488355328 then (some (y895 ++ t922)) else (none)) = some r := H
            have A67 := Aside0.mk A670
            clear A670
            by_cases c68 : y895.length + t922.length < 140737488355328
            ·rw [if_pos c68] at H
             have LMc68 := Aside0.mk c68
             clear c68
             obtain ⟨y925, hy925⟩ : ∃ y_ : List Int, y_ = (y895 ++ t922) := ⟨_, rfl⟩
             replace H : (some y925) = some r := by first | (rw [hy925]; with_reducible exact H) | (have H2_ := (Option.bind_some _ _).symm.trans H; rw [hy925]; with_reducible exact H2_) | (have H2_ := (Option.bind_some _ _).symm.trans H; with_reducible exact H2_) | with_reducible exact H | (rw [hy925]; exact H) | exact H
             have Ny925 := Aside0.mk hy925
             clear hy925
             obtain rfl := Option.some.inj H
             go_wp2_with (first | ((with_reducible refine gate_builtin (b := .append) (xs := #[.tmp 69, .tmp 72]) rfl ?_); at_builtin; refine Kd.R_append (Kd.int .u8) (w0 := w) w.heap.size rfl (.tmp 69) (.tmp 72) 25 5 (.int .u8 0) 1 rfl Tryz.underlying25 info5 rfl (by decide) (by omega) u10 x10_20 ((a1) % 256) [.int .u8 ((a1) % 256)] (fun _ => True) (fun _ => False) rfl rfl ?aP (fun _ hk => hk.elim) ?aF ?aO ?aB ?aS ?aL ?_; (case aP => exact rfl); (case aB => exact (BU HB.out)); (case aF => exact (fun _ _ => trivial)); (case aO => exact (RU HO_10.out)); (case aS => exact (below_size (BU HB.out))); (case aL => have := LMc33.out; omega); intro v896 w69 ho hb hg hat; rw [← Ny895.out] at ho; have n0_ := Aside0.mk (Kd.R_over' (RU HO_6.out) (Kd.R_typed (RU HO_10.out)) (by decide) hg); have n1_ := Aside0.mk (Kd.R_over' (RU HO_7.out) (Kd.R_typed (RU HO_10.out)) (by decide) hg); have n2_ := Aside0.mk (hb); have n3_ := Aside0.mk (ho); clear HO_6 HO_7 HB HO_10; have HO_6 := n0_; have HO_7 := n1_; have HB := n2_; have HO897 := n3_; clear n0_ n1_ n2_ n3_; clear ho hb hg hat; obtain ⟨Ao70, co70, eo70⟩ := Kd.R_slice HO_6.out; subst eo70) | ((with_reducible refine gate_callee (f := 30) rfl ?_); refine goesL_ (some 103) rfl rfl Tryz.func30 (by kernel_rfl) rfl #[.slice Ao70 x6_1.length co70] rfl EA ?_; (with_reducible refine (estreatref12_Put.calls kj20 _ _ x6_1 t922 _ ?side1 ?side2 A67.out).mono ?_); (case side1 => exact CU ((Kd.R_reads' HO_6.out).2.2)); (case side2 => exact (Kd.R_reads' HO_6.out).2.1); rintro e w71 ⟨v923, rfl, ho0, hb⟩; refine ⟨_, rfl, ?_⟩; have n0_ := Aside0.mk (Kd.R_below (RU HO_6.out) hb); have n1_ := Aside0.mk (Kd.R_below (RU HO_7.out) hb); have n2_ := Aside0.mk (Kd.R_elder' (RU HO897.out) (Kd.R_base ho0) hb); have n3_ := Aside0.mk (Kd.R_lower (Kd.R_new' ho0 (Kd.R_lt (RU HO897.out))) (below_size (BU HB.out))); have n4_ := Aside0.mk (below_step (BU HB.out) hb); clear HO_6 HO_7 HO897 HB; have HO_6 := n0_; have HO_7 := n1_; have HO897 := n2_; have HO924 := n3_; have HB := n4_; clear n0_ n1_ n2_ n3_ n4_; (try clear hb); (try clear hb2); (try clear hk); (try clear hi); (try clear ho0); obtain ⟨Ao73, co73, eo73⟩ := Kd.R_slice HO924.out; subst eo73) | ((with_reducible refine gate_builtin (b := .append) (xs := #[.tmp 101, .tmp 103]) rfl ?_); at_builtin; refine Kd.R_append_rows (Kd.int .u8) (w0 := w) w.heap.size rfl (.tmp 101) (.tmp 103) 25 5 (.int .u8 0) 1 rfl Tryz.underlying25 info5 rfl (by decide) (by omega) v896 y895 t922 _ _ _ (fun k_ => some k_ ≠ (.slice Ao73 t922.length co73 : Value).ownBlock) (fun _ => False) rfl rfl ?aO ?aR (fun _ _ h => h) (fun _ h => h.elim) ?aF ?aB ?aS ?aL ?_; (case aR => exact CU ((Kd.R_reads' HO924.out).2.2)); (case aB => exact (BU HB.out)); (case aF => exact (fun k_ hk => Kd.fresh' (Kd.R_lt (RU HO924.out)) k_ hk)); (case aO => exact (RU (Kd.R_mono HO897.out (fun _ hk => hk.2)))); (case aS => exact (below_size (BU HB.out))); (case aL => have := LMc68.out; omega); intro v926 w72 ho hb hg hat; rw [← Ny925.out] at ho; have n0_ := Aside0.mk (Kd.R_over' (RU HO_6.out) (Kd.R_typed (RU HO897.out)) (by decide) hg); have n1_ := Aside0.mk (Kd.R_over' (RU HO_7.out) (Kd.R_typed (RU HO897.out)) (by decide) hg); have n2_ := Aside0.mk (Kd.R_after (ok := (fun _ => True)) (RU HO924.out) hg hat); have n3_ := Aside0.mk (hb); have n4_ := Aside0.mk (ho); clear HO_6 HO_7 HO924 HB HO897; have HO_6 := n0_; have HO_7 := n1_; have HO924 := n2_; have HB := n3_; have HO927 := n4_; clear n0_ n1_ n2_ n3_ n4_; clear ho hb hg hat))
             go_ret
             exact ⟨_, by first | rfl | (simp [errW_none, errW_some] <;> rfl) | (simp [*, errW_none, errW_some] <;> rfl), RU (Kd.R_mono HO927.out (fun _ hk => trivial)), BU HB.out⟩
            ·rw [if_neg c68] at H
             exact absurd H (by simp)
           ·rw [if_neg c66] at H
            have c66b0 : (a1 == 4) = false := beq_eq_false_iff_ne.mpr c66
            have c66b1 : (a1 != 4) = true := bne_iff_ne.mpr c66
            replace H := Option.bind_eq_some_iff.mp H
            obtain ⟨t928, A740, H⟩ := H
            replace H : (if y895.length + t928.length < 140737488355328 then (some (y895 ++ t928)) else (none)) = some r := H
            have A74 := Aside0.mk A740
            clear A740
            by_cases c75 : y895.length + t928.length < 140737488355328
            ·rw [if_pos c75] at H
             have LMc75 := Aside0.mk c75
             clear c75
             obtain ⟨y931, hy931⟩ : ∃ y_ : List Int, y_ = (y895 ++ t928) := ⟨_, rfl⟩
             replace H : (some y931) = some r := by first | (rw [hy931]; with_reducible exact H) | (have H2_ := (Option.bind_some _ _).symm.trans H; rw [hy931]; with_reducible exact H2_) | (have H2_ := (Option.bind_some _ _).symm.trans H; with_reducible exact H2_) | with_reducible exact H | (rw [hy931]; exact H) | exact H
             have Ny931 := Aside0.mk hy931
             clear hy931
             obtain rfl := Option.some.inj H
             go_wp2_with (first | ((with_reducible refine gate_builtin (b := .append) (xs := #[.tmp 69, .tmp 72]) rfl ?_); at_builtin; refine Kd.R_append (Kd.int .u8) (w0 := w) w.heap.size rfl (.tmp 69) (.tmp 72) 25 5 (.int .u8 0) 1 rfl Tryz.underlying25 info5 rfl (by decide) (by omega) u10 x10_20 ((a1) % 256) [.int .u8 ((a1) % 256)] (fun _ => True) (fun _ => False) rfl rfl ?aP (fun _ hk => hk.elim) ?aF ?aO ?aB ?aS ?aL ?_; (case aP => exact rfl); (case aB => exact (BU HB.out)); (case aF => exact (fun _ _ => trivial)); (case aO => exact (RU HO_10.out)); (case aS => exact (below_size (BU HB.out))); (case aL => have := LMc33.out; omega); intro v896 w76 ho hb hg hat; rw [← Ny895.out] at ho; have n0_ := Aside0.mk (Kd.R_over' (RU HO_6.out) (Kd.R_typed (RU HO_10.out)) (by decide) hg); have n1_ := Aside0.mk (Kd.R_over' (RU HO_7.out) (Kd.R_typed (RU HO_10.out)) (by decide) hg); have n2_ := Aside0.mk (hb); have n3_ := Aside0.mk (ho); clear HO_6 HO_7 HB HO_10; have HO_6 := n0_; have HO_7 := n1_; have HB := n2_; have HO897 := n3_; clear n0_ n1_ n2_ n3_; clear ho hb hg hat; obtain ⟨Ao77, co77, eo77⟩ := Kd.R_slice HO_7.out; subst eo77) | ((with_reducible refine gate_callee (f := 31) rfl ?_); refine goesL_ (some 107) rfl rfl Tryz.func31 (by kernel_rfl) rfl #[.slice Ao77 x7_1.length co77] rfl EA ?_; (with_reducible refine (estreatref13_Put.calls kj20 _ _ x7_1 t928 _ ?side1 ?side2 A74.out).mono ?_); (case side1 => exact CU ((Kd.R_reads' HO_7.out).2.2)); (case side2 => exact (Kd.R_reads' HO_7.out).2.1); rintro e w78 ⟨v929, rfl, ho0, hb⟩; refine ⟨_, rfl, ?_⟩; have n0_ := Aside0.mk (Kd.R_below (RU HO_6.out) hb); have n1_ := Aside0.mk (Kd.R_below (RU HO_7.out) hb); have n2_ := Aside0.mk (Kd.R_elder' (RU HO897.out) (Kd.R_base ho0) hb); have n3_ := Aside0.mk (Kd.R_lower (Kd.R_new' ho0 (Kd.R_lt (RU HO897.out))) (below_size (BU HB.out))); have n4_ := Aside0.mk (below_step (BU HB.out) hb); clear HO_6 HO_7 HO897 HB; have HO_6 := n0_; have HO_7 := n1_; have HO897 := n2_; have HO930 := n3_; have HB := n4_; clear n0_ n1_ n2_ n3_ n4_; (try clear hb); (try clear hb2); (try clear hk); (try clear hi); (try clear ho0); obtain ⟨Ao80, co80, eo80⟩ := Kd.R_slice HO930.out; subst eo80) | ((with_reducible refine gate_builtin (b := .append) (xs := #[.tmp 105, .tmp 107]) rfl ?_); at_builtin; refine Kd.R_append_rows (Kd.int .u8) (w0 := w) w.heap.size rfl (.tmp 105) (.tmp 107) 25 5 (.int .u8 0) 1 rfl Tryz.underlying25 info5 rfl (by decide) (by omega) v896 y895 t928 _ _ _ (fun k_ => some k_ ≠ (.slice Ao80 t928.length co80 : Value).ownBlock) (fun _ => False) rfl rfl ?aO ?aR (fun _ _ h => h) (fun _ h => h.elim) ?aF ?aB ?aS ?aL ?_; (case aR => exact CU ((Kd.R_reads' HO930.out).2.2)); (case aB => exact (BU HB.out)); (case aF => exact (fun k_ hk => Kd.fresh' (Kd.R_lt (RU HO930.out)) k_ hk)); (case aO => exact (RU (Kd.R_mono HO897.out (fun _ hk => hk.2)))); (case aS => exact (below_size (BU HB.out))); (case aL => have := LMc75.out; omega); intro v932 w79 ho hb hg hat; rw [← Ny931.out] at ho; have n0_ := Aside0.mk (Kd.R_over' (RU HO_6.out) (Kd.R_typed (RU HO897.out)) (by decide) hg); have n1_ := Aside0.mk (Kd.R_over' (RU HO_7.out) (Kd.R_typed (RU HO897.out)) (by decide) hg); have n2_ := Aside0.mk (Kd.R_after (ok := (fun _ => True)) (RU HO930.out) hg hat); have n3_ := Aside0.mk (hb); have n4_ := Aside0.mk (ho); clear HO_6 HO_7 HO930 HB HO897; have HO_6 := n0_; have HO_7 := n1_; have HO930 := n2_; have HB := n3_; have HO933 := n4_; clear n0_ n1_ n2_ n3_ n4_; clear ho hb hg hat))
             go_ret
             exact ⟨_, by first | rfl | (simp [errW_none, errW_some] <;> rfl) | (simp [*, errW_none, errW_some] <;> rfl), RU (Kd.R_mono HO933.out (fun _ hk => trivial)), BU HB.out⟩
            ·rw [if_neg c75] at H
             exact absurd H (by simp)
      ·rw [if_neg c33] at H
       exact absurd H (by simp)

end Go.Proofs.YtefcchpjbojdkaaGreatDoor.PChunkPuts
