/- WRITTEN BY A PROGRAM of this session (wip/tool: a turned copy of the printer), out of the translation: Lean functions with the answers of the Go functions, and the proofs that the Go code comes to them. -/
import Derived.Test.YtjmhfbgpebgcmaaDoorPForeGetsx0
import Derived.Test.YtjmhfbgpebgcmaaDoorPForeGetsx1
import Derived.Test.YtjmhfbgpebgcmaaDoorPForeGetsx2
import Derived.Test.YtjmhfbgpebgcmaaDoorPForeGetsx3
import Derived.Test.YtjmhfbgpebgcmaaDoorPForeGetsx4
import Derived.Test.YtjmhfbgpebgcmaaDoorPForeGetsx5
namespace Go.Proofs.YtjmhfbgpebgcmaaDoor.PForeGets
open Go.RowKit Go.Proofs.YtjmhfbgpebgcmaaDoorW.PrintWords Go.Proofs.YtjmhfbgpebgcmaaDoorW.PrintLast Go.Proofs.YtjmhfbgpebgcmaaDoorW.PrintMore
attribute [local go_sem] max2_int min2_int max_two min_two max_three min_three max_four min_four   -- for this text's walks alone
set_option linter.unusedVariables false
set_option linter.unusedSimpArgs false

/-! ### fore_Get: function 46 -/
mutual
def fore_Get.j0 : Nat → List Int → Int → Bool → Option (List Int × Int)
  | 0, _, _, _ => none
  | k + 1, x0, x1, x17 => if x17 = true then (some (([] : List Int), 1)) else (if x1 = 0 then (fore_Get.j1 k x0 x1 (decide ((x0.length : Int) > 0))) else (fore_Get.j1 k x0 x1 false))
def fore_Get.j1 : Nat → List Int → Int → Bool → Option (List Int × Int)
  | 0, _, _, _ => none
  | k + 1, x0, x1, x24 => if x24 = true then (some (([] : List Int), 3)) else (if x1 = 0 then (some (([] : List Int), 0)) else ((num_NewReader.f x0).bind fun bt214 => ((num_Reader_Var.f k bt214.1 bt214.2.1 bt214.2.2.1 bt214.2.2.2).bind fun bt219 => ((num_Zag.f bt219.1).bind fun t223 => ((num_Reader_Fix.f k bt214.1 bt219.2.1 bt219.2.2.1 bt219.2.2.2 1).bind fun bt224 => (if (wrap64 (bt224.1)) > 64 then ((num_Reader_Fail.f bt214.1 bt224.2.1 bt224.2.2.1 bt224.2.2.2 5).bind fun bt228 => (fore_Get.j2 k x1 t223 (wrap64 (bt224.1)) bt214.1 bt228.1 bt228.2.1 bt228.2.2)) else (fore_Get.j2 k x1 t223 (wrap64 (bt224.1)) bt214.1 bt224.2.1 bt224.2.2.1 bt224.2.2.2)))))))
def fore_Get.j2 : Nat → Int → Int → Int → List Int → Int → Int → Int → Option (List Int × Int)
  | 0, _, _, _, _, _, _, _ => none
  | k + 1, x1, x7, x8, x219000, x219001, x219002, x219003 => (num_Reader_Err.f x219000 x219001 x219002 x219003).bind fun bt231 => (if bt231.1 = 0 then ((num_Reader_Left.f x219000 bt231.2.2.1 bt231.2.2.2.1 bt231.2.2.2.2).bind fun bt236 => ((num_Reader_Take.f x219000 bt236.2.1 bt236.2.2.1 bt236.2.2.2 bt236.1).bind fun bt240 => ((bits_Unpack.f k bt240.1 x1 x8).bind fun bt246 => (if bt246.2 = 0 then ((bits_Width.f k bt246.1).bind fun t250 => (if t250 = x8 then ((slices_Min_uint64_uint64.f k bt246.1).bind fun t251 => (if t251 = 0 then ((slices_Max_uint64_uint64.f k bt246.1).bind fun t252 => (fore_Get.j3 k x7 bt246.1 (decide (t252 > (IntKind.u64.wrap (9223372036854775807 - (IntKind.u64.wrap (x7)))))))) else (fore_Get.j3 k x7 bt246.1 true))) else (fore_Get.j3 k x7 bt246.1 true))) else (some (([] : List Int), bt246.2)))))) else (some (([] : List Int), bt231.1)))
def fore_Get.j3 : Nat → Int → List Int → Bool → Option (List Int × Int)
  | 0, _, _, _ => none
  | k + 1, x7, x11, x85 => if x85 = true then (some (([] : List Int), 4)) else (fore_Get.l0 k x7 ([] : List Int) x11 (x11.length : Int) 0)
def fore_Get.l0 : Nat → Int → List Int → List Int → Int → Int → Option (List Int × Int)
  | 0, _, _, _, _, _ => none
  | k + 1, x7, x14, x86, x87, x88 => if x88 < x87 then (if 0 ≤ x88 then (if x88 < (x86.length : Int) then (if x14.length < 17592186044416 then (fore_Get.l0 k x7 (x14 ++ [wrap64 (IntKind.u64.wrap ((IntKind.u64.wrap (x7)) + (rd x86 x88)))]) x86 x87 (wrap64 (x88 + 1))) else (none)) else (none)) else (none)) else (some (x14, 0))
end
def fore_Get.f (k : Nat) (l0 : List Int) (a1 : Int) : Option (List Int × Int) := if a1 < 0 then (fore_Get.j0 k l0 a1 true) else (fore_Get.j0 k l0 a1 (decide (a1 > 65536)))
theorem fore_Get.mono_l : ∀ k, (∀ y0 y1 y2, LeO (fore_Get.j0 k y0 y1 y2) (fore_Get.j0 (k + 1) y0 y1 y2)) ∧ (∀ y0 y1 y2, LeO (fore_Get.j1 k y0 y1 y2) (fore_Get.j1 (k + 1) y0 y1 y2)) ∧ (∀ y0 y1 y2 y3 y4 y5 y6, LeO (fore_Get.j2 k y0 y1 y2 y3 y4 y5 y6) (fore_Get.j2 (k + 1) y0 y1 y2 y3 y4 y5 y6)) ∧ (∀ y0 y1 y2, LeO (fore_Get.j3 k y0 y1 y2) (fore_Get.j3 (k + 1) y0 y1 y2)) ∧ (∀ y0 y1 y2 y3 y4, LeO (fore_Get.l0 k y0 y1 y2 y3 y4) (fore_Get.l0 (k + 1) y0 y1 y2 y3 y4))
  | 0 => ⟨fun _ _ _ r h => by simp [fore_Get.j0] at h, fun _ _ _ r h => by simp [fore_Get.j1] at h, fun _ _ _ _ _ _ _ r h => by simp [fore_Get.j2] at h, fun _ _ _ r h => by simp [fore_Get.j3] at h, fun _ _ _ _ _ r h => by simp [fore_Get.l0] at h⟩
  | k + 1 => by
    obtain ⟨ih0, ih1, ih2, ih3, ih4⟩ := fore_Get.mono_l k
    refine ⟨?_, ?_, ?_, ?_, ?_⟩
    · intro y0 y1 y2
      unfold fore_Get.j0
      repeat' first
      | (with_reducible exact ih0 _ _ _)
      | (with_reducible exact ih1 _ _ _)
      | (with_reducible exact ih2 _ _ _ _ _ _ _)
      | (with_reducible exact ih3 _ _ _)
      | (with_reducible exact ih4 _ _ _ _ _)
      | (with_reducible exact bits_Unpack.mono _ _ _ _)
      | (with_reducible exact bits_Width.mono _ _)
      | (with_reducible exact num_Reader_Fix.mono _ _ _ _ _ _)
      | (with_reducible exact num_Reader_Var.mono _ _ _ _ _)
      | (with_reducible exact slices_Max_uint64_uint64.mono _ _)
      | (with_reducible exact slices_Min_uint64_uint64.mono _ _)
      | (with_reducible exact LeO.refl _)
      | (with_reducible exact LeO.none _)
      | (with_reducible refine LeO.ite ?_ ?_)
      | (with_reducible refine LeO.bind ?_ (fun _ => ?_))
      | exact ih0 _ _ _
      | exact ih1 _ _ _
      | exact ih2 _ _ _ _ _ _ _
      | exact ih3 _ _ _
      | exact ih4 _ _ _ _ _
      | exact bits_Unpack.mono _ _ _ _
      | exact bits_Width.mono _ _
      | exact num_Reader_Fix.mono _ _ _ _ _ _
      | exact num_Reader_Var.mono _ _ _ _ _
      | exact slices_Max_uint64_uint64.mono _ _
      | exact slices_Min_uint64_uint64.mono _ _
      | exact LeO.none _
      | refine LeO.ite ?_ ?_
      | refine LeO.bind ?_ (fun _ => ?_)
    · intro y0 y1 y2
      unfold fore_Get.j1
      repeat' first
      | (with_reducible exact ih0 _ _ _)
      | (with_reducible exact ih1 _ _ _)
      | (with_reducible exact ih2 _ _ _ _ _ _ _)
      | (with_reducible exact ih3 _ _ _)
      | (with_reducible exact ih4 _ _ _ _ _)
      | (with_reducible exact bits_Unpack.mono _ _ _ _)
      | (with_reducible exact bits_Width.mono _ _)
      | (with_reducible exact num_Reader_Fix.mono _ _ _ _ _ _)
      | (with_reducible exact num_Reader_Var.mono _ _ _ _ _)
      | (with_reducible exact slices_Max_uint64_uint64.mono _ _)
      | (with_reducible exact slices_Min_uint64_uint64.mono _ _)
      | (with_reducible exact LeO.refl _)
      | (with_reducible exact LeO.none _)
      | (with_reducible refine LeO.ite ?_ ?_)
      | (with_reducible refine LeO.bind ?_ (fun _ => ?_))
      | exact ih0 _ _ _
      | exact ih1 _ _ _
      | exact ih2 _ _ _ _ _ _ _
      | exact ih3 _ _ _
      | exact ih4 _ _ _ _ _
      | exact bits_Unpack.mono _ _ _ _
      | exact bits_Width.mono _ _
      | exact num_Reader_Fix.mono _ _ _ _ _ _
      | exact num_Reader_Var.mono _ _ _ _ _
      | exact slices_Max_uint64_uint64.mono _ _
      | exact slices_Min_uint64_uint64.mono _ _
      | exact LeO.none _
      | refine LeO.ite ?_ ?_
      | refine LeO.bind ?_ (fun _ => ?_)
    · intro y0 y1 y2 y3 y4 y5 y6
      unfold fore_Get.j2
      repeat' first
      | (with_reducible exact ih0 _ _ _)
      | (with_reducible exact ih1 _ _ _)
      | (with_reducible exact ih2 _ _ _ _ _ _ _)
      | (with_reducible exact ih3 _ _ _)
      | (with_reducible exact ih4 _ _ _ _ _)
      | (with_reducible exact bits_Unpack.mono _ _ _ _)
      | (with_reducible exact bits_Width.mono _ _)
      | (with_reducible exact num_Reader_Fix.mono _ _ _ _ _ _)
      | (with_reducible exact num_Reader_Var.mono _ _ _ _ _)
      | (with_reducible exact slices_Max_uint64_uint64.mono _ _)
      | (with_reducible exact slices_Min_uint64_uint64.mono _ _)
      | (with_reducible exact LeO.refl _)
      | (with_reducible exact LeO.none _)
      | (with_reducible refine LeO.ite ?_ ?_)
      | (with_reducible refine LeO.bind ?_ (fun _ => ?_))
      | exact ih0 _ _ _
      | exact ih1 _ _ _
      | exact ih2 _ _ _ _ _ _ _
      | exact ih3 _ _ _
      | exact ih4 _ _ _ _ _
      | exact bits_Unpack.mono _ _ _ _
      | exact bits_Width.mono _ _
      | exact num_Reader_Fix.mono _ _ _ _ _ _
      | exact num_Reader_Var.mono _ _ _ _ _
      | exact slices_Max_uint64_uint64.mono _ _
      | exact slices_Min_uint64_uint64.mono _ _
      | exact LeO.none _
      | refine LeO.ite ?_ ?_
      | refine LeO.bind ?_ (fun _ => ?_)
    · intro y0 y1 y2
      unfold fore_Get.j3
      repeat' first
      | (with_reducible exact ih0 _ _ _)
      | (with_reducible exact ih1 _ _ _)
      | (with_reducible exact ih2 _ _ _ _ _ _ _)
      | (with_reducible exact ih3 _ _ _)
      | (with_reducible exact ih4 _ _ _ _ _)
      | (with_reducible exact bits_Unpack.mono _ _ _ _)
      | (with_reducible exact bits_Width.mono _ _)
      | (with_reducible exact num_Reader_Fix.mono _ _ _ _ _ _)
      | (with_reducible exact num_Reader_Var.mono _ _ _ _ _)
      | (with_reducible exact slices_Max_uint64_uint64.mono _ _)
      | (with_reducible exact slices_Min_uint64_uint64.mono _ _)
      | (with_reducible exact LeO.refl _)
      | (with_reducible exact LeO.none _)
      | (with_reducible refine LeO.ite ?_ ?_)
      | (with_reducible refine LeO.bind ?_ (fun _ => ?_))
      | exact ih0 _ _ _
      | exact ih1 _ _ _
      | exact ih2 _ _ _ _ _ _ _
      | exact ih3 _ _ _
      | exact ih4 _ _ _ _ _
      | exact bits_Unpack.mono _ _ _ _
      | exact bits_Width.mono _ _
      | exact num_Reader_Fix.mono _ _ _ _ _ _
      | exact num_Reader_Var.mono _ _ _ _ _
      | exact slices_Max_uint64_uint64.mono _ _
      | exact slices_Min_uint64_uint64.mono _ _
      | exact LeO.none _
      | refine LeO.ite ?_ ?_
      | refine LeO.bind ?_ (fun _ => ?_)
    · intro y0 y1 y2 y3 y4
      unfold fore_Get.l0
      repeat' first
      | (with_reducible exact ih0 _ _ _)
      | (with_reducible exact ih1 _ _ _)
      | (with_reducible exact ih2 _ _ _ _ _ _ _)
      | (with_reducible exact ih3 _ _ _)
      | (with_reducible exact ih4 _ _ _ _ _)
      | (with_reducible exact bits_Unpack.mono _ _ _ _)
      | (with_reducible exact bits_Width.mono _ _)
      | (with_reducible exact num_Reader_Fix.mono _ _ _ _ _ _)
      | (with_reducible exact num_Reader_Var.mono _ _ _ _ _)
      | (with_reducible exact slices_Max_uint64_uint64.mono _ _)
      | (with_reducible exact slices_Min_uint64_uint64.mono _ _)
      | (with_reducible exact LeO.refl _)
      | (with_reducible exact LeO.none _)
      | (with_reducible refine LeO.ite ?_ ?_)
      | (with_reducible refine LeO.bind ?_ (fun _ => ?_))
      | exact ih0 _ _ _
      | exact ih1 _ _ _
      | exact ih2 _ _ _ _ _ _ _
      | exact ih3 _ _ _
      | exact ih4 _ _ _ _ _
      | exact bits_Unpack.mono _ _ _ _
      | exact bits_Width.mono _ _
      | exact num_Reader_Fix.mono _ _ _ _ _ _
      | exact num_Reader_Var.mono _ _ _ _ _
      | exact slices_Max_uint64_uint64.mono _ _
      | exact slices_Min_uint64_uint64.mono _ _
      | exact LeO.none _
      | refine LeO.ite ?_ ?_
      | refine LeO.bind ?_ (fun _ => ?_)
theorem fore_Get.mono : ∀ a0 a1 k, LeO (fore_Get.f k a0 a1) (fore_Get.f (k + 1) a0 a1) := by
  intro a0 a1 k
  obtain ⟨ih0, ih1, ih2, ih3, ih4⟩ := fore_Get.mono_l k
  unfold fore_Get.f
  repeat' first
      | (with_reducible exact ih0 _ _ _)
      | (with_reducible exact ih1 _ _ _)
      | (with_reducible exact ih2 _ _ _ _ _ _ _)
      | (with_reducible exact ih3 _ _ _)
      | (with_reducible exact ih4 _ _ _ _ _)
      | (with_reducible exact bits_Unpack.mono _ _ _ _)
      | (with_reducible exact bits_Width.mono _ _)
      | (with_reducible exact num_Reader_Fix.mono _ _ _ _ _ _)
      | (with_reducible exact num_Reader_Var.mono _ _ _ _ _)
      | (with_reducible exact slices_Max_uint64_uint64.mono _ _)
      | (with_reducible exact slices_Min_uint64_uint64.mono _ _)
      | (with_reducible exact LeO.refl _)
      | (with_reducible exact LeO.none _)
      | (with_reducible refine LeO.ite ?_ ?_)
      | (with_reducible refine LeO.bind ?_ (fun _ => ?_))
      | exact ih0 _ _ _
      | exact ih1 _ _ _
      | exact ih2 _ _ _ _ _ _ _
      | exact ih3 _ _ _
      | exact ih4 _ _ _ _ _
      | exact bits_Unpack.mono _ _ _ _
      | exact bits_Width.mono _ _
      | exact num_Reader_Fix.mono _ _ _ _ _ _
      | exact num_Reader_Var.mono _ _ _ _ _
      | exact slices_Max_uint64_uint64.mono _ _
      | exact slices_Min_uint64_uint64.mono _ _
      | exact LeO.none _
      | refine LeO.ite ?_ ?_
      | refine LeO.bind ?_ (fun _ => ?_)
set_option maxHeartbeats 8000000 in
set_option maxRecDepth 100000 in
theorem fore_Get.calls (k : Nat) (A0 : Option Addr) (c0 : Nat) (l0 : List Int) (a1 : Int) (r1 : List Int) (r2 : Int) (w : World) (hr0 : Kd.C (Kd.int .u8) w A0 l0.length l0) (hc0 : l0.length ≤ c0) (hG : HG w) (h : fore_Get.f k l0 a1 = some (r1, r2)) :
    Calls Tryd.prog 46 #[.slice A0 l0.length c0, .int .i64 a1] w fun e w' => ∃ v0_ : Value, e = .returned (.tuple #[v0_, .int .i64 r2]) ∧ Kd.R (Kd.int .i64) 2 w' w.heap.size (fun _ => True) v0_ r1 ∧ Below w.heap.size w w' := by
  have HR0 := Aside0.mk hr0
  have HC0 := Aside0.mk hc0
  clear hr0 hc0
  have HB := Aside0.mk (Below.refl w.heap.size w)
  have H : (if a1 < 0 then (fore_Get.j0 k l0 a1 true) else (fore_Get.j0 k l0 a1 (decide (a1 > 65536)))) = some (r1, r2) := h
  clear h
  have HC3 := Aside0.mk H
  clear H
  go_enter Tryd.func46, Tryd.ntmps46
  go_upto_region 1 with (fail)
  go_cut [17] (fun v17 wc => ∃ (kq : Nat) (x17_2 : Bool), v17 = .bool x17_2 ∧ Aside0 (fore_Get.j0 kq l0 a1 x17_2 = some (r1, r2)) ∧ Aside0 (kq ≤ k) ∧ Aside0 (Below w.heap.size w wc))
  case first =>
    have H := HC3.out
    clear HC3
    by_cases c4 : a1 < 0
    · rw [if_pos c4] at H
      have c4b0 : decide (a1 < 0) = true := decide_eq_true c4
      clear c4
      (first | rw [c4b0] | (simp only [i64_w, i32_w]; rw [c4b0]) | skip)
      have H' := Aside0.mk H
      clear H
      go_wp2
      go_meet
      case rel => exact ⟨_, (true), (by first | rfl | (simp; done) | (simp [*]; done)), H', ⟨by first | omega | exact Nat.le_refl _⟩, ⟨by repeat (first | (with_reducible first | exact HB.out | apply below_alloc | apply pw_below_drewN | apply below_drew1) | exact HB.out)⟩⟩
    · rw [if_neg c4] at H
      have c4b0 : decide (a1 < 0) = false := decide_eq_false c4
      clear c4
      (first | rw [c4b0] | (simp only [i64_w, i32_w]; rw [c4b0]) | skip)
      have H' := Aside0.mk H
      clear H
      go_wp2
      go_meet
      case rel => exact ⟨_, (decide (a1 > 65536)), (by first | rfl | (simp; done) | (simp [*]; done)), H', ⟨by first | omega | exact Nat.le_refl _⟩, ⟨by repeat (first | (with_reducible first | exact HB.out | apply below_alloc | apply pw_below_drewN | apply below_drew1) | exact HB.out)⟩⟩
  case rest =>
    clear HC3
    try clear p2
    try clear c4
    try clear c4b0
    obtain ⟨kq, x17_2, rfl, HA, HJ2, HB⟩ := hcut
    cases kq with
    | zero => exact absurd HA.out (by simp [fore_Get.j0])
    | succ kj2 =>
      have H := HA.out
      clear HA
      simp only [fore_Get.j0] at H
      by_cases c5 : x17_2 = true
      · subst c5
        have H1 : (some (([] : List Int), 1)) = some (r1, r2) := by rw [if_pos rfl] at H; exact H
        clear H
        have H := H1
        clear H1
        simp only [Option.some.injEq, Prod.mk.injEq] at H
        obtain ⟨rfl, rfl⟩ := H
        go_wp2
        go_ret2
        exact ⟨_, by first | rfl | (simp [errW_none, errW_some] <;> rfl) | (simp [*, errW_none, errW_some] <;> rfl), by first | exact Kd.R_nil _ _ _ _ _ | exact Kd.N_nil _ _ _ _ _ | exact Kd.V_nil _ _ _ _ _ | exact Kd.Q_nil _ _ _ _ _ | exact Kd.S_nil _ _ _ _ _, by repeat (first | (with_reducible first | exact HB.out | apply below_alloc | apply pw_below_drewN | apply below_drew1) | exact HB.out)⟩
      · replace c5 := Bool.eq_false_iff.mpr c5
        subst c5
        have H1 : (if a1 = 0 then (fore_Get.j1 kj2 l0 a1 (decide ((l0.length : Int) > 0))) else (fore_Get.j1 kj2 l0 a1 false)) = some (r1, r2) := by rw [if_neg (show ¬ (false = true) by decide)] at H; exact H
        clear H
        have H := H1
        clear H1
        have HC6 := Aside0.mk H
        clear H
        go_upto_region 3 with (fail)
        go_cut [24] (fun v24 wc => ∃ (kq : Nat) (x24_5 : Bool), v24 = .bool x24_5 ∧ Aside0 (fore_Get.j1 kq l0 a1 x24_5 = some (r1, r2)) ∧ Aside0 (kq ≤ kj2) ∧ Aside0 (Below w.heap.size w wc))
        case first =>
          have H := HC6.out
          clear HC6
          by_cases c7 : a1 = 0
          · rw [if_pos c7] at H
            have c7b0 : (a1 == 0) = true := beq_iff_eq.mpr c7
            have c7b1 : (a1 != 0) = false := bne_eq_false_iff_eq.mpr c7
            clear c7
            (first | rw [c7b0] | (simp only [i64_w, i32_w]; rw [c7b0]) | skip)
            have H' := Aside0.mk H
            clear H
            go_wp2
            go_meet
            case rel => exact ⟨_, (decide ((l0.length : Int) > 0)), (by first | rfl | (simp; done) | (simp [*]; done)), H', ⟨by have := HJ2.out; first | omega | exact Nat.le_refl _⟩, ⟨by repeat (first | (with_reducible first | exact HB.out | apply below_alloc | apply pw_below_drewN | apply below_drew1) | exact HB.out)⟩⟩
          · rw [if_neg c7] at H
            have c7b0 : (a1 == 0) = false := beq_eq_false_iff_ne.mpr c7
            have c7b1 : (a1 != 0) = true := bne_iff_ne.mpr c7
            (first | rw [c7b0] | (simp only [i64_w, i32_w]; rw [c7b0]) | skip)
            have H' := Aside0.mk H
            clear H
            go_wp2
            go_meet
            case rel => exact ⟨_, (false), (by first | rfl | (simp; done) | (simp [*]; done)), H', ⟨by have := HJ2.out; first | omega | exact Nat.le_refl _⟩, ⟨by repeat (first | (with_reducible first | exact HB.out | apply below_alloc | apply pw_below_drewN | apply below_drew1) | exact HB.out)⟩⟩
        case rest =>
          clear HC6
          try clear p2
          try clear c4
          try clear c4b0
          try clear c5
          try clear c7
          try clear c7b0
          try clear c7b1
          try clear p2
          obtain ⟨kq, x24_5, rfl, HA, HJ5, HB⟩ := hcut
          cases kq with
          | zero => exact absurd HA.out (by simp [fore_Get.j1])
          | succ kj5 =>
            have H := HA.out
            clear HA
            simp only [fore_Get.j1] at H
            by_cases c8 : x24_5 = true
            · subst c8
              have H1 : (some (([] : List Int), 3)) = some (r1, r2) := by rw [if_pos rfl] at H; exact H
              clear H
              have H := H1
              clear H1
              simp only [Option.some.injEq, Prod.mk.injEq] at H
              obtain ⟨rfl, rfl⟩ := H
              go_wp2
              go_ret2
              exact ⟨_, by first | rfl | (simp [errW_none, errW_some] <;> rfl) | (simp [*, errW_none, errW_some] <;> rfl), by first | exact Kd.R_nil _ _ _ _ _ | exact Kd.N_nil _ _ _ _ _ | exact Kd.V_nil _ _ _ _ _ | exact Kd.Q_nil _ _ _ _ _ | exact Kd.S_nil _ _ _ _ _, by repeat (first | (with_reducible first | exact HB.out | apply below_alloc | apply pw_below_drewN | apply below_drew1) | exact HB.out)⟩
            · replace c8 := Bool.eq_false_iff.mpr c8
              subst c8
              have H1 : (if a1 = 0 then (some (([] : List Int), 0)) else ((num_NewReader.f l0).bind fun bt214 => ((num_Reader_Var.f kj5 bt214.1 bt214.2.1 bt214.2.2.1 bt214.2.2.2).bind fun bt219 => ((num_Zag.f bt219.1).bind fun t223 => ((num_Reader_Fix.f kj5 bt214.1 bt219.2.1 bt219.2.2.1 bt219.2.2.2 1).bind fun bt224 => (if (wrap64 (bt224.1)) > 64 then ((num_Reader_Fail.f bt214.1 bt224.2.1 bt224.2.2.1 bt224.2.2.2 5).bind fun bt228 => (fore_Get.j2 kj5 a1 t223 (wrap64 (bt224.1)) bt214.1 bt228.1 bt228.2.1 bt228.2.2)) else (fore_Get.j2 kj5 a1 t223 (wrap64 (bt224.1)) bt214.1 bt224.2.1 bt224.2.2.1 bt224.2.2.2))))))) = some (r1, r2) := by rw [if_neg (show ¬ (false = true) by decide)] at H; exact H
              clear H
              have H := H1
              clear H1
              by_cases c9 : a1 = 0
              · rw [if_pos c9] at H
                have c9b0 : (a1 == 0) = true := beq_iff_eq.mpr c9
                have c9b1 : (a1 != 0) = false := bne_eq_false_iff_eq.mpr c9
                clear c9
                simp only [Option.some.injEq, Prod.mk.injEq] at H
                obtain ⟨rfl, rfl⟩ := H
                go_wp2
                go_ret2
                exact ⟨_, by first | rfl | (simp [errW_none, errW_some] <;> rfl) | (simp [*, errW_none, errW_some] <;> rfl), by first | exact Kd.R_nil _ _ _ _ _ | exact Kd.N_nil _ _ _ _ _ | exact Kd.V_nil _ _ _ _ _ | exact Kd.Q_nil _ _ _ _ _ | exact Kd.S_nil _ _ _ _ _, by repeat (first | (with_reducible first | exact HB.out | apply below_alloc | apply pw_below_drewN | apply below_drew1) | exact HB.out)⟩
              · rw [if_neg c9] at H
                have c9b0 : (a1 == 0) = false := beq_eq_false_iff_ne.mpr c9
                have c9b1 : (a1 != 0) = true := bne_iff_ne.mpr c9
                replace H := Option.bind_eq_some_iff.mp H
                obtain ⟨⟨t214, t215, t216, t217⟩, A100, H⟩ := H
                replace H : ((num_Reader_Var.f kj5 t214 t215 t216 t217).bind fun bt219 => ((num_Zag.f bt219.1).bind fun t223 => ((num_Reader_Fix.f kj5 t214 bt219.2.1 bt219.2.2.1 bt219.2.2.2 1).bind fun bt224 => (if (wrap64 (bt224.1)) > 64 then ((num_Reader_Fail.f t214 bt224.2.1 bt224.2.2.1 bt224.2.2.2 5).bind fun bt228 => (fore_Get.j2 kj5 a1 t223 (wrap64 (bt224.1)) t214 bt228.1 bt228.2.1 bt228.2.2)) else (fore_Get.j2 kj5 a1 t223 (wrap64 (bt224.1)) t214 bt224.2.1 bt224.2.2.1 bt224.2.2.2))))) = some (r1, r2) := H
                have A10 := Aside0.mk A100
                clear A100
                replace H := Option.bind_eq_some_iff.mp H
                obtain ⟨⟨t219, t220, t221, t222⟩, A110, H⟩ := H
                replace H : ((num_Zag.f t219).bind fun t223 => ((num_Reader_Fix.f kj5 t214 t220 t221 t222 1).bind fun bt224 => (if (wrap64 (bt224.1)) > 64 then ((num_Reader_Fail.f t214 bt224.2.1 bt224.2.2.1 bt224.2.2.2 5).bind fun bt228 => (fore_Get.j2 kj5 a1 t223 (wrap64 (bt224.1)) t214 bt228.1 bt228.2.1 bt228.2.2)) else (fore_Get.j2 kj5 a1 t223 (wrap64 (bt224.1)) t214 bt224.2.1 bt224.2.2.1 bt224.2.2.2)))) = some (r1, r2) := H
                have A11 := Aside0.mk A110
                clear A110
                replace H := Option.bind_eq_some_iff.mp H
                obtain ⟨t223, A120, H⟩ := H
                replace H : ((num_Reader_Fix.f kj5 t214 t220 t221 t222 1).bind fun bt224 => (if (wrap64 (bt224.1)) > 64 then ((num_Reader_Fail.f t214 bt224.2.1 bt224.2.2.1 bt224.2.2.2 5).bind fun bt228 => (fore_Get.j2 kj5 a1 t223 (wrap64 (bt224.1)) t214 bt228.1 bt228.2.1 bt228.2.2)) else (fore_Get.j2 kj5 a1 t223 (wrap64 (bt224.1)) t214 bt224.2.1 bt224.2.2.1 bt224.2.2.2))) = some (r1, r2) := H
                have A12 := Aside0.mk A120
                clear A120
                replace H := Option.bind_eq_some_iff.mp H
                obtain ⟨⟨t224, t225, t226, t227⟩, A130, H⟩ := H
                replace H : (if (wrap64 (t224)) > 64 then ((num_Reader_Fail.f t214 t225 t226 t227 5).bind fun bt228 => (fore_Get.j2 kj5 a1 t223 (wrap64 (t224)) t214 bt228.1 bt228.2.1 bt228.2.2)) else (fore_Get.j2 kj5 a1 t223 (wrap64 (t224)) t214 t225 t226 t227)) = some (r1, r2) := H
                have A13 := Aside0.mk A130
                clear A130
                have HC14 := Aside0.mk H
                clear H
                go_upto_if 44 with (first | ((with_reducible refine gate_callee (f := 13) rfl ?_); refine goesL_ (some 36) rfl rfl Tryd.func13 (by kernel_rfl) rfl #[.slice A0 l0.length c0] rfl (by (try simp only [List.map_toArray, List.map_cons, List.map_nil]); first | done | rfl | (simp only [List.length_drop, List.length_take]; rfl)) ?_; (with_reducible refine (num_NewReader.calls _ _ l0 t214 t215 t216 t217 w _ ?side1 ?side2 ?side3 hG A10.out).mono ?_); (case side1 => repeat (first | (with_reducible first | exact HB.out | apply below_alloc | apply pw_below_drewN | apply below_drew1) | exact HB.out)); (case side2 => repeat (first | exact (Kd.C_below HR0.out HB.out) | (with_reducible refine Kd.C_alloc ?_ _) | (with_reducible refine Kd.C_drewN ?_ _) | (with_reducible refine Kd.C_drew ?_))); (case side3 => exact HC0.out); rintro e w15 ⟨g218, rfl, hi, hb, hb2⟩; refine ⟨_, rfl, ?_⟩; have n0_ := Aside0.mk (hb); have n1_ := Aside0.mk (hi); clear HB; have HB := n0_; have HI218 := n1_; clear n0_ n1_; (try clear hb); (try clear hb2); (try clear hk); (try clear hi)) | ((with_reducible refine gate_callee (f := 15) rfl ?_); refine goesL_ (some 38) rfl rfl Tryd.func15 (by kernel_rfl) rfl #[.pointer (some ⟨g218, 0, none⟩)] rfl (by (try simp only [List.map_toArray, List.map_cons, List.map_nil]); first | done | rfl | (simp only [List.length_drop, List.length_take]; rfl)) ?_; (with_reducible refine (num_Reader_Var.calls kj5 g218 t214 t215 t216 t217 t219 t220 t221 t222 w _ ?side1 ?side2 A11.out).mono ?_); (case side1 => repeat (first | (with_reducible first | exact HI218.out | apply IsS71.alloc | apply IsS71.drewN | apply IsS71.drew | apply IsS71.set_1 | apply IsS71.set_2 | apply IsS71.set_3) | exact HI218.out)); (case side2 => repeat (first | (with_reducible first | exact HB.out | apply below_alloc | apply pw_below_drewN | apply below_drew1 | refine below_set ?_ (IsS71.ge HI218.out)) | exact HB.out)); rintro e w16 ⟨rfl, hi, hb, hk⟩; refine ⟨_, rfl, ?_⟩; have n0_ := Aside0.mk (hb); have n1_ := Aside0.mk (hi); clear HB; clear HI218; have HB := n0_; have HI218 := n1_; clear n0_ n1_; (try clear hb); (try clear hb2); (try clear hk); (try clear hi)) | ((with_reducible refine gate_callee (f := 26) rfl ?_); refine goesL_ (some 39) rfl rfl Tryd.func26 (by kernel_rfl) rfl #[.int .u64 t219] rfl (by (try simp only [List.map_toArray, List.map_cons, List.map_nil]); first | done | rfl | (simp only [List.length_drop, List.length_take]; rfl)) ?_; (with_reducible refine (num_Zag.calls t219 t223 _ A12.out).mono ?_); rintro e w' ⟨rfl, ⟨nd, rfl⟩⟩; refine ⟨_, rfl, ?_⟩) | ((with_reducible refine gate_callee (f := 18) rfl ?_); refine goesL_ (some 41) rfl rfl Tryd.func18 (by kernel_rfl) rfl #[.pointer (some ⟨g218, 0, none⟩), .int .i64 1] rfl (by (try simp only [List.map_toArray, List.map_cons, List.map_nil]); first | done | rfl | (simp only [List.length_drop, List.length_take]; rfl)) ?_; (with_reducible refine (num_Reader_Fix.calls kj5 g218 t214 t220 t221 t222 1 t224 t225 t226 t227 w _ ?side1 ?side2 A13.out).mono ?_); (case side1 => repeat (first | (with_reducible first | exact HI218.out | apply IsS71.alloc | apply IsS71.drewN | apply IsS71.drew | apply IsS71.set_1 | apply IsS71.set_2 | apply IsS71.set_3) | exact HI218.out)); (case side2 => repeat (first | (with_reducible first | exact HB.out | apply below_alloc | apply pw_below_drewN | apply below_drew1 | refine below_set ?_ (IsS71.ge HI218.out)) | exact HB.out)); rintro e w17 ⟨rfl, hi, hb, hk⟩; refine ⟨_, rfl, ?_⟩; have n0_ := Aside0.mk (hb); have n1_ := Aside0.mk (hi); clear HB; clear HI218; have HB := n0_; have HI218 := n1_; clear n0_ n1_; (try clear hb); (try clear hb2); (try clear hk); (try clear hi)))
                (try simp only [Act.put, List.setIfInBounds_toArray, List.set_cons_zero, List.set_cons_succ])
                go_cut [] (fun wc => ∃ (kq : Nat) (x219001_13 : Int) (x219002_13 : Int) (x219003_13 : Int), Aside0 (fore_Get.j2 kq a1 t223 (wrap64 (t224)) t214 x219001_13 x219002_13 x219003_13 = some (r1, r2)) ∧ Aside0 (kq ≤ kj5) ∧ Aside0 (IsS71 w wc g218 t214 x219001_13 x219002_13 x219003_13) ∧ Aside0 (Below w.heap.size w wc))
                case first =>
                  have H := HC14.out
                  clear HC14
                  by_cases c18 : (wrap64 (t224)) > 64
                  · rw [if_pos c18] at H
                    have c18b0 : decide (64 < (wrap64 (t224))) = true := decide_eq_true c18
                    clear c18
                    (first | rw [c18b0] | (simp only [i64_w, i32_w]; rw [c18b0]) | skip)
                    replace H := Option.bind_eq_some_iff.mp H
                    obtain ⟨⟨t228, t229, t230⟩, A190, H⟩ := H
                    replace H : (fore_Get.j2 kj5 a1 t223 (wrap64 (t224)) t214 t228 t229 t230) = some (r1, r2) := H
                    have A19 := Aside0.mk A190
                    clear A190
                    have H' := Aside0.mk H
                    clear H
                    go_wp2_with (first | ((with_reducible refine gate_callee (f := 17) rfl ?_); refine goesL_ (some 46) rfl rfl Tryd.func17 (by kernel_rfl) rfl #[.pointer (some ⟨g218, 0, none⟩), .int .i64 5] rfl (by (try simp only [List.map_toArray, List.map_cons, List.map_nil]); first | done | rfl | (simp only [List.length_drop, List.length_take]; rfl)) ?_; (with_reducible refine (num_Reader_Fail.calls g218 t214 t225 t226 t227 5 t228 t229 t230 w _ ?side1 ?side2 A19.out).mono ?_); (case side1 => repeat (first | (with_reducible first | exact HI218.out | apply IsS71.alloc | apply IsS71.drewN | apply IsS71.drew | apply IsS71.set_1 | apply IsS71.set_2 | apply IsS71.set_3) | exact HI218.out)); (case side2 => repeat (first | (with_reducible first | exact HB.out | apply below_alloc | apply pw_below_drewN | apply below_drew1 | refine below_set ?_ (IsS71.ge HI218.out)) | exact HB.out)); rintro e w20 ⟨rfl, hi, hb, hk⟩; refine ⟨_, rfl, ?_⟩; have n0_ := Aside0.mk (hb); have n1_ := Aside0.mk (hi); clear HB; clear HI218; have HB := n0_; have HI218 := n1_; clear n0_ n1_; (try clear hb); (try clear hb2); (try clear hk); (try clear hi)))
                    go_meet
                    case rel => exact ⟨_, (t228), (t229), (t230), H', ⟨by have := HJ2.out; have := HJ5.out; first | omega | exact Nat.le_refl _⟩, ⟨by repeat (first | (with_reducible first | exact HI218.out | apply IsS71.alloc | apply IsS71.drewN | apply IsS71.drew | apply IsS71.set_1 | apply IsS71.set_2 | apply IsS71.set_3) | exact HI218.out)⟩, ⟨by repeat (first | (with_reducible first | exact HB.out | apply below_alloc | apply pw_below_drewN | apply below_drew1 | refine below_set ?_ (IsS71.ge HI218.out)) | exact HB.out)⟩⟩
                  · rw [if_neg c18] at H
                    have c18b0 : decide (64 < (wrap64 (t224))) = false := decide_eq_false c18
                    clear c18
                    (first | rw [c18b0] | (simp only [i64_w, i32_w]; rw [c18b0]) | skip)
                    have H' := Aside0.mk H
                    clear H
                    go_wp2
                    go_meet
                    case rel => exact ⟨_, (t225), (t226), (t227), H', ⟨by have := HJ2.out; have := HJ5.out; first | omega | exact Nat.le_refl _⟩, ⟨by repeat (first | (with_reducible first | exact HI218.out | apply IsS71.alloc | apply IsS71.drewN | apply IsS71.drew | apply IsS71.set_1 | apply IsS71.set_2 | apply IsS71.set_3) | exact HI218.out)⟩, ⟨by repeat (first | (with_reducible first | exact HB.out | apply below_alloc | apply pw_below_drewN | apply below_drew1 | refine below_set ?_ (IsS71.ge HI218.out)) | exact HB.out)⟩⟩
                case rest =>
                  clear HC14
                  try clear c1
                  try clear c2
                  try clear p2
                  try clear c4
                  try clear c4b0
                  try clear c5
                  try clear p6
                  try clear c7
                  try clear c7b0
                  try clear c7b1
                  try clear c8
                  try clear c9
                  try clear c9b0
                  try clear c9b1
                  try clear c13
                  try clear c15
                  try clear c17
                  try clear c18
                  try clear c18b0
                  try clear p2
                  obtain ⟨kq, x219001_13, x219002_13, x219003_13, HA, HJ13, HI218, HB⟩ := hcut
                  cases kq with
                  | zero => exact absurd HA.out (by simp [fore_Get.j2])
                  | succ kj13 =>
                    have H := HA.out
                    clear HA
                    simp only [fore_Get.j2] at H
                    replace H := Option.bind_eq_some_iff.mp H
                    obtain ⟨⟨t231, t232, t233, t234, t235⟩, A210, H⟩ := H
                    replace H : (if t231 = 0 then ((num_Reader_Left.f t214 t233 t234 t235).bind fun bt236 => ((num_Reader_Take.f t214 bt236.2.1 bt236.2.2.1 bt236.2.2.2 bt236.1).bind fun bt240 => ((bits_Unpack.f kj13 bt240.1 a1 (wrap64 (t224))).bind fun bt246 => (if bt246.2 = 0 then ((bits_Width.f kj13 bt246.1).bind fun t250 => (if t250 = (wrap64 (t224)) then ((slices_Min_uint64_uint64.f kj13 bt246.1).bind fun t251 => (if t251 = 0 then ((slices_Max_uint64_uint64.f kj13 bt246.1).bind fun t252 => (fore_Get.j3 kj13 t223 bt246.1 (decide (t252 > (IntKind.u64.wrap (9223372036854775807 - (IntKind.u64.wrap (t223)))))))) else (fore_Get.j3 kj13 t223 bt246.1 true))) else (fore_Get.j3 kj13 t223 bt246.1 true))) else (some (([] : List Int), bt246.2)))))) else (some (([] : List Int), t231))) = some (r1, r2) := H
                    have A21 := Aside0.mk A210
                    clear A210
                    by_cases c22 : t231 = 0
                    · rw [if_pos c22] at H
                      have c22b0 : (t231 == 0) = true := beq_iff_eq.mpr c22
                      have c22b1 : (t231 != 0) = false := bne_eq_false_iff_eq.mpr c22
                      clear c22
                      replace H := Option.bind_eq_some_iff.mp H
                      obtain ⟨⟨t236, t237, t238, t239⟩, A230, H⟩ := H
                      replace H : ((num_Reader_Take.f t214 t237 t238 t239 t236).bind fun bt240 => ((bits_Unpack.f kj13 bt240.1 a1 (wrap64 (t224))).bind fun bt246 => (if bt246.2 = 0 then ((bits_Width.f kj13 bt246.1).bind fun t250 => (if t250 = (wrap64 (t224)) then ((slices_Min_uint64_uint64.f kj13 bt246.1).bind fun t251 => (if t251 = 0 then ((slices_Max_uint64_uint64.f kj13 bt246.1).bind fun t252 => (fore_Get.j3 kj13 t223 bt246.1 (decide (t252 > (IntKind.u64.wrap (9223372036854775807 - (IntKind.u64.wrap (t223)))))))) else (fore_Get.j3 kj13 t223 bt246.1 true))) else (fore_Get.j3 kj13 t223 bt246.1 true))) else (some (([] : List Int), bt246.2))))) = some (r1, r2) := H
                      have A23 := Aside0.mk A230
                      clear A230
                      replace H := Option.bind_eq_some_iff.mp H
                      obtain ⟨⟨t240, t243, t244, t245⟩, A240, H⟩ := H
                      replace H : ((bits_Unpack.f kj13 t240 a1 (wrap64 (t224))).bind fun bt246 => (if bt246.2 = 0 then ((bits_Width.f kj13 bt246.1).bind fun t250 => (if t250 = (wrap64 (t224)) then ((slices_Min_uint64_uint64.f kj13 bt246.1).bind fun t251 => (if t251 = 0 then ((slices_Max_uint64_uint64.f kj13 bt246.1).bind fun t252 => (fore_Get.j3 kj13 t223 bt246.1 (decide (t252 > (IntKind.u64.wrap (9223372036854775807 - (IntKind.u64.wrap (t223)))))))) else (fore_Get.j3 kj13 t223 bt246.1 true))) else (fore_Get.j3 kj13 t223 bt246.1 true))) else (some (([] : List Int), bt246.2)))) = some (r1, r2) := H
                      have A24 := Aside0.mk A240
                      clear A240
                      replace H := Option.bind_eq_some_iff.mp H
                      obtain ⟨⟨t246, t247⟩, A250, H⟩ := H
                      replace H : (if t247 = 0 then ((bits_Width.f kj13 t246).bind fun t250 => (if t250 = (wrap64 (t224)) then ((slices_Min_uint64_uint64.f kj13 t246).bind fun t251 => (if t251 = 0 then ((slices_Max_uint64_uint64.f kj13 t246).bind fun t252 => (fore_Get.j3 kj13 t223 t246 (decide (t252 > (IntKind.u64.wrap (9223372036854775807 - (IntKind.u64.wrap (t223)))))))) else (fore_Get.j3 kj13 t223 t246 true))) else (fore_Get.j3 kj13 t223 t246 true))) else (some (([] : List Int), t247))) = some (r1, r2) := H
                      have A25 := Aside0.mk A250
                      clear A250
                      by_cases c26 : t247 = 0
                      · rw [if_pos c26] at H
                        have c26b0 : (t247 == 0) = true := beq_iff_eq.mpr c26
                        have c26b1 : (t247 != 0) = false := bne_eq_false_iff_eq.mpr c26
                        clear c26
                        have HC27 := Aside0.mk H
                        clear H
                        go_upto_region 18 with (first | ((with_reducible refine gate_callee (f := 16) rfl ?_); refine goesL_ (some 49) rfl rfl Tryd.func16 (by kernel_rfl) rfl #[.pointer (some ⟨g218, 0, none⟩)] rfl (by (try simp only [List.map_toArray, List.map_cons, List.map_nil]); first | done | rfl | (simp only [List.length_drop, List.length_take]; rfl)) ?_; (with_reducible refine (num_Reader_Err.calls g218 t214 x219001_13 x219002_13 x219003_13 t231 t232 t233 t234 t235 w _ ?side1 ?side2 A21.out).mono ?_); (case side1 => repeat (first | (with_reducible first | exact HI218.out | apply IsS71.alloc | apply IsS71.drewN | apply IsS71.drew | apply IsS71.set_1 | apply IsS71.set_2 | apply IsS71.set_3) | exact HI218.out)); (case side2 => repeat (first | (with_reducible first | exact HB.out | apply below_alloc | apply pw_below_drewN | apply below_drew1 | refine below_set ?_ (IsS71.ge HI218.out)) | exact HB.out)); rintro e w28 ⟨rfl, hi, hb, hk⟩; refine ⟨_, rfl, ?_⟩; have n0_ := Aside0.mk (hb); have n1_ := Aside0.mk (hi); clear HB; clear HI218; have HB := n0_; have HI218 := n1_; clear n0_ n1_; (try clear hb); (try clear hb2); (try clear hk); (try clear hi)) | ((with_reducible refine gate_callee (f := 21) rfl ?_); refine goesL_ (some 58) rfl rfl Tryd.func21 (by kernel_rfl) rfl #[.pointer (some ⟨g218, 0, none⟩)] rfl (by (try simp only [List.map_toArray, List.map_cons, List.map_nil]); first | done | rfl | (simp only [List.length_drop, List.length_take]; rfl)) ?_; (with_reducible refine (num_Reader_Left.calls g218 t214 t233 t234 t235 t236 t237 t238 t239 w _ ?side1 ?side2 A23.out).mono ?_); (case side1 => repeat (first | (with_reducible first | exact HI218.out | apply IsS71.alloc | apply IsS71.drewN | apply IsS71.drew | apply IsS71.set_1 | apply IsS71.set_2 | apply IsS71.set_3) | exact HI218.out)); (case side2 => repeat (first | (with_reducible first | exact HB.out | apply below_alloc | apply pw_below_drewN | apply below_drew1 | refine below_set ?_ (IsS71.ge HI218.out)) | exact HB.out)); rintro e w29 ⟨rfl, hi, hb, hk⟩; refine ⟨_, rfl, ?_⟩; have n0_ := Aside0.mk (hb); have n1_ := Aside0.mk (hi); clear HB; clear HI218; have HB := n0_; have HI218 := n1_; clear n0_ n1_; (try clear hb); (try clear hb2); (try clear hk); (try clear hi)) | ((with_reducible refine gate_callee (f := 14) rfl ?_); refine goesL_ (some 59) rfl rfl Tryd.func14 (by kernel_rfl) rfl #[.pointer (some ⟨g218, 0, none⟩), .int .i64 t236] rfl (by (try simp only [List.map_toArray, List.map_cons, List.map_nil]); first | done | rfl | (simp only [List.length_drop, List.length_take]; rfl)) ?_; (with_reducible refine (num_Reader_Take.calls g218 t214 t237 t238 t239 t236 t240 t243 t244 t245 w _ ?side1 ?side2 A24.out).mono ?_); (case side1 => repeat (first | (with_reducible first | exact HI218.out | apply IsS71.alloc | apply IsS71.drewN | apply IsS71.drew | apply IsS71.set_1 | apply IsS71.set_2 | apply IsS71.set_3) | exact HI218.out)); (case side2 => repeat (first | (with_reducible first | exact HB.out | apply below_alloc | apply pw_below_drewN | apply below_drew1 | refine below_set ?_ (IsS71.ge HI218.out)) | exact HB.out)); rintro e w30 ⟨v241, rfl, ho0, hi, hb, hk⟩; refine ⟨_, rfl, ?_⟩; have n0_ := Aside0.mk (Kd.R_lower ho0 (below_size (by repeat (first | (with_reducible first | exact HB.out | apply below_alloc | apply pw_below_drewN | apply below_drew1 | refine below_set ?_ (IsS71.ge HI218.out)) | exact HB.out)))); have n1_ := Aside0.mk (hb); have n2_ := Aside0.mk (hi); clear HB; clear HI218; have HO242 := n0_; have HB := n1_; have HI218 := n2_; clear n0_ n1_ n2_; (try clear hb); (try clear hb2); (try clear hk); (try clear hi); (try clear ho0); obtain ⟨Ao31, co31, eo31⟩ := Kd.R_slice HO242.out; subst eo31) | ((with_reducible refine gate_callee (f := 56) rfl ?_); refine goesL_ (some 62) rfl rfl Tryd.func56 (by kernel_rfl) rfl #[.slice Ao31 t240.length co31, .int .i64 a1, .int .i64 (wrap64 (t224))] rfl (by (try simp only [List.map_toArray, List.map_cons, List.map_nil]); first | done | rfl | (simp only [List.length_drop, List.length_take]; rfl)) ?_; (with_reducible refine (bits_Unpack.calls kj13 _ _ t240 a1 (wrap64 (t224)) t246 t247 _ ?side1 ?side2 A25.out).mono ?_); (case side1 => repeat (first | exact (Kd.R_reads' HO242.out).2.2 | (with_reducible refine Kd.C_alloc ?_ _) | (with_reducible refine Kd.C_drewN ?_ _) | (with_reducible refine Kd.C_drew ?_))); (case side2 => exact (Kd.R_reads' HO242.out).2.1); rintro e w32 ⟨v248, rfl, ho0, hb⟩; refine ⟨_, rfl, ?_⟩; have n0_ := Aside0.mk (Kd.R_below (by (with_reducible repeat (first | apply Kd.R_alloc | apply Kd.R_drewN | apply Kd.R_drew)); exact HO242.out) hb); have n1_ := Aside0.mk (Kd.R_lower ho0 (below_size (by repeat (first | (with_reducible first | exact HB.out | apply below_alloc | apply pw_below_drewN | apply below_drew1 | refine below_set ?_ (IsS71.ge HI218.out)) | exact HB.out)))); have n2_ := Aside0.mk (IsS71.below (by repeat (first | (with_reducible first | exact HI218.out | apply IsS71.alloc | apply IsS71.drewN | apply IsS71.drew | apply IsS71.set_1 | apply IsS71.set_2 | apply IsS71.set_3) | exact HI218.out)) hb); have n3_ := Aside0.mk (below_step (by repeat (first | (with_reducible first | exact HB.out | apply below_alloc | apply pw_below_drewN | apply below_drew1 | refine below_set ?_ (IsS71.ge HI218.out)) | exact HB.out)) hb); clear HO242; clear HI218; clear HB; have HO242 := n0_; have HO249 := n1_; have HI218 := n2_; have HB := n3_; clear n0_ n1_ n2_ n3_; (try clear hb); (try clear hb2); (try clear hk); (try clear hi); (try clear ho0)))
                        (try simp only [Act.put, List.setIfInBounds_toArray, List.set_cons_zero, List.set_cons_succ])
                        go_cut [85] (fun v85 wc => ∃ (kq : Nat) (x85_26 : Bool), v85 = .bool x85_26 ∧ Aside0 (fore_Get.j3 kq t223 t246 x85_26 = some (r1, r2)) ∧ Aside0 (kq ≤ kj13) ∧ Aside0 (Kd.R (Kd.int .u64) 22 wc w.heap.size (fun _ => True) v248 t246) ∧ Aside0 (Below w.heap.size w wc))
                        case first =>
                          have H := HC27.out
                          clear HC27
                          replace H := Option.bind_eq_some_iff.mp H
                          obtain ⟨t250, A330, H⟩ := H
                          replace H : (if t250 = (wrap64 (t224)) then ((slices_Min_uint64_uint64.f kj13 t246).bind fun t251 => (if t251 = 0 then ((slices_Max_uint64_uint64.f kj13 t246).bind fun t252 => (fore_Get.j3 kj13 t223 t246 (decide (t252 > (IntKind.u64.wrap (9223372036854775807 - (IntKind.u64.wrap (t223)))))))) else (fore_Get.j3 kj13 t223 t246 true))) else (fore_Get.j3 kj13 t223 t246 true)) = some (r1, r2) := H
                          have A33 := Aside0.mk A330
                          clear A330
                          by_cases c34 : t250 = (wrap64 (t224))
                          · rw [if_pos c34] at H
                            have c34b0 : (t250 == (wrap64 (t224))) = true := beq_iff_eq.mpr c34
                            have c34b1 : (t250 != (wrap64 (t224))) = false := bne_eq_false_iff_eq.mpr c34
                            clear c34
                            (first | rw [c34b0] | (simp only [i64_w, i32_w]; rw [c34b0]) | skip)
                            replace H := Option.bind_eq_some_iff.mp H
                            obtain ⟨t251, A350, H⟩ := H
                            replace H : (if t251 = 0 then ((slices_Max_uint64_uint64.f kj13 t246).bind fun t252 => (fore_Get.j3 kj13 t223 t246 (decide (t252 > (IntKind.u64.wrap (9223372036854775807 - (IntKind.u64.wrap (t223)))))))) else (fore_Get.j3 kj13 t223 t246 true)) = some (r1, r2) := H
                            have A35 := Aside0.mk A350
                            clear A350
                            by_cases c36 : t251 = 0
                            · rw [if_pos c36] at H
                              have c36b0 : (t251 == 0) = true := beq_iff_eq.mpr c36
                              have c36b1 : (t251 != 0) = false := bne_eq_false_iff_eq.mpr c36
                              clear c36
                              replace H := Option.bind_eq_some_iff.mp H
                              obtain ⟨t252, A370, H⟩ := H
                              replace H : (fore_Get.j3 kj13 t223 t246 (decide (t252 > (IntKind.u64.wrap (9223372036854775807 - (IntKind.u64.wrap (t223))))))) = some (r1, r2) := H
                              have A37 := Aside0.mk A370
                              clear A370
                              have H' := Aside0.mk H
                              clear H
                              obtain ⟨Ao38, co38, eo38⟩ := Kd.R_slice HO249.out
                              subst eo38
                              go_wp2_with (first | ((with_reducible refine gate_callee (f := 57) rfl ?_); refine goesL_ (some 72) rfl rfl Tryd.func57 (by kernel_rfl) rfl #[.slice Ao38 t246.length co38] rfl (by (try simp only [List.map_toArray, List.map_cons, List.map_nil]); first | done | rfl | (simp only [List.length_drop, List.length_take]; rfl)) ?_; (with_reducible refine (bits_Width.calls kj13 _ _ t246 t250 _ ?side1 ?side2 A33.out).mono ?_); (case side1 => repeat (first | exact (Kd.R_reads' HO249.out).2.2 | (with_reducible refine Kd.C_alloc ?_ _) | (with_reducible refine Kd.C_drewN ?_ _) | (with_reducible refine Kd.C_drew ?_))); (case side2 => exact (Kd.R_reads' HO249.out).2.1); rintro e w' ⟨rfl, ⟨nd, rfl⟩⟩; refine ⟨_, rfl, ?_⟩) | (go_at_call 58; (with_reducible refine (slices_Min_uint64_uint64.calls kj13 _ _ t246 t251 _ ?side1 ?side2 A35.out).mono ?_); (case side1 => repeat (first | exact (Kd.R_reads' HO249.out).2.2 | (with_reducible refine Kd.C_alloc ?_ _) | (with_reducible refine Kd.C_drewN ?_ _) | (with_reducible refine Kd.C_drew ?_))); (case side2 => exact (Kd.R_reads' HO249.out).2.1); rintro e w39 ⟨rfl, hb⟩; have n0_ := Aside0.mk (Kd.R_below (by (with_reducible repeat (first | apply Kd.R_alloc | apply Kd.R_drewN | apply Kd.R_drew)); exact HO242.out) hb); have n1_ := Aside0.mk (Kd.R_below (by (with_reducible repeat (first | apply Kd.R_alloc | apply Kd.R_drewN | apply Kd.R_drew)); exact HO249.out) hb); have n2_ := Aside0.mk (IsS71.below (by repeat (first | (with_reducible first | exact HI218.out | apply IsS71.alloc | apply IsS71.drewN | apply IsS71.drew | apply IsS71.set_1 | apply IsS71.set_2 | apply IsS71.set_3) | exact HI218.out)) hb); have n3_ := Aside0.mk (below_step (by repeat (first | (with_reducible first | exact HB.out | apply below_alloc | apply pw_below_drewN | apply below_drew1 | refine below_set ?_ (IsS71.ge HI218.out)) | exact HB.out)) hb); clear HO242; clear HO249; clear HI218; clear HB; have HO242 := n0_; have HO249 := n1_; have HI218 := n2_; have HB := n3_; clear n0_ n1_ n2_ n3_; (try clear hb); (try clear hb2); (try clear hk); (try clear hi)) | (go_at_call 59; (with_reducible refine (slices_Max_uint64_uint64.calls kj13 _ _ t246 t252 _ ?side1 ?side2 A37.out).mono ?_); (case side1 => repeat (first | exact (Kd.R_reads' HO249.out).2.2 | (with_reducible refine Kd.C_alloc ?_ _) | (with_reducible refine Kd.C_drewN ?_ _) | (with_reducible refine Kd.C_drew ?_))); (case side2 => exact (Kd.R_reads' HO249.out).2.1); rintro e w40 ⟨rfl, hb⟩; have n0_ := Aside0.mk (Kd.R_below (by (with_reducible repeat (first | apply Kd.R_alloc | apply Kd.R_drewN | apply Kd.R_drew)); exact HO242.out) hb); have n1_ := Aside0.mk (Kd.R_below (by (with_reducible repeat (first | apply Kd.R_alloc | apply Kd.R_drewN | apply Kd.R_drew)); exact HO249.out) hb); have n2_ := Aside0.mk (IsS71.below (by repeat (first | (with_reducible first | exact HI218.out | apply IsS71.alloc | apply IsS71.drewN | apply IsS71.drew | apply IsS71.set_1 | apply IsS71.set_2 | apply IsS71.set_3) | exact HI218.out)) hb); have n3_ := Aside0.mk (below_step (by repeat (first | (with_reducible first | exact HB.out | apply below_alloc | apply pw_below_drewN | apply below_drew1 | refine below_set ?_ (IsS71.ge HI218.out)) | exact HB.out)) hb); clear HO242; clear HO249; clear HI218; clear HB; have HO242 := n0_; have HO249 := n1_; have HI218 := n2_; have HB := n3_; clear n0_ n1_ n2_ n3_; (try clear hb); (try clear hb2); (try clear hk); (try clear hi)))
                              go_meet
                              case rel => exact ⟨_, (decide (t252 > (IntKind.u64.wrap (9223372036854775807 - (IntKind.u64.wrap (t223)))))), (by first | rfl | (simp; done) | (simp [*]; done)), H', ⟨by have := HJ2.out; have := HJ5.out; have := HJ13.out; first | omega | exact Nat.le_refl _⟩, ⟨by (with_reducible repeat (first | apply Kd.R_alloc | apply Kd.R_drewN | apply Kd.R_drew)); exact HO249.out⟩, ⟨by repeat (first | (with_reducible first | exact HB.out | apply below_alloc | apply pw_below_drewN | apply below_drew1 | refine below_set ?_ (IsS71.ge HI218.out)) | exact HB.out)⟩⟩
                            · rw [if_neg c36] at H
                              have c36b0 : (t251 == 0) = false := beq_eq_false_iff_ne.mpr c36
                              have c36b1 : (t251 != 0) = true := bne_iff_ne.mpr c36
                              have H' := Aside0.mk H
                              clear H
                              obtain ⟨Ao41, co41, eo41⟩ := Kd.R_slice HO249.out
                              subst eo41
                              go_wp2_with (first | ((with_reducible refine gate_callee (f := 57) rfl ?_); refine goesL_ (some 72) rfl rfl Tryd.func57 (by kernel_rfl) rfl #[.slice Ao41 t246.length co41] rfl (by (try simp only [List.map_toArray, List.map_cons, List.map_nil]); first | done | rfl | (simp only [List.length_drop, List.length_take]; rfl)) ?_; (with_reducible refine (bits_Width.calls kj13 _ _ t246 t250 _ ?side1 ?side2 A33.out).mono ?_); (case side1 => repeat (first | exact (Kd.R_reads' HO249.out).2.2 | (with_reducible refine Kd.C_alloc ?_ _) | (with_reducible refine Kd.C_drewN ?_ _) | (with_reducible refine Kd.C_drew ?_))); (case side2 => exact (Kd.R_reads' HO249.out).2.1); rintro e w' ⟨rfl, ⟨nd, rfl⟩⟩; refine ⟨_, rfl, ?_⟩) | (go_at_call 58; (with_reducible refine (slices_Min_uint64_uint64.calls kj13 _ _ t246 t251 _ ?side1 ?side2 A35.out).mono ?_); (case side1 => repeat (first | exact (Kd.R_reads' HO249.out).2.2 | (with_reducible refine Kd.C_alloc ?_ _) | (with_reducible refine Kd.C_drewN ?_ _) | (with_reducible refine Kd.C_drew ?_))); (case side2 => exact (Kd.R_reads' HO249.out).2.1); rintro e w42 ⟨rfl, hb⟩; have n0_ := Aside0.mk (Kd.R_below (by (with_reducible repeat (first | apply Kd.R_alloc | apply Kd.R_drewN | apply Kd.R_drew)); exact HO242.out) hb); have n1_ := Aside0.mk (Kd.R_below (by (with_reducible repeat (first | apply Kd.R_alloc | apply Kd.R_drewN | apply Kd.R_drew)); exact HO249.out) hb); have n2_ := Aside0.mk (IsS71.below (by repeat (first | (with_reducible first | exact HI218.out | apply IsS71.alloc | apply IsS71.drewN | apply IsS71.drew | apply IsS71.set_1 | apply IsS71.set_2 | apply IsS71.set_3) | exact HI218.out)) hb); have n3_ := Aside0.mk (below_step (by repeat (first | (with_reducible first | exact HB.out | apply below_alloc | apply pw_below_drewN | apply below_drew1 | refine below_set ?_ (IsS71.ge HI218.out)) | exact HB.out)) hb); clear HO242; clear HO249; clear HI218; clear HB; have HO242 := n0_; have HO249 := n1_; have HI218 := n2_; have HB := n3_; clear n0_ n1_ n2_ n3_; (try clear hb); (try clear hb2); (try clear hk); (try clear hi)))
                              go_meet
                              case rel => exact ⟨_, (true), (by first | rfl | (simp; done) | (simp [*]; done)), H', ⟨by have := HJ2.out; have := HJ5.out; have := HJ13.out; first | omega | exact Nat.le_refl _⟩, ⟨by (with_reducible repeat (first | apply Kd.R_alloc | apply Kd.R_drewN | apply Kd.R_drew)); exact HO249.out⟩, ⟨by repeat (first | (with_reducible first | exact HB.out | apply below_alloc | apply pw_below_drewN | apply below_drew1 | refine below_set ?_ (IsS71.ge HI218.out)) | exact HB.out)⟩⟩
                          · rw [if_neg c34] at H
                            have c34b0 : (t250 == (wrap64 (t224))) = false := beq_eq_false_iff_ne.mpr c34
                            have c34b1 : (t250 != (wrap64 (t224))) = true := bne_iff_ne.mpr c34
                            (first | rw [c34b0] | (simp only [i64_w, i32_w]; rw [c34b0]) | skip)
                            have H' := Aside0.mk H
                            clear H
                            obtain ⟨Ao43, co43, eo43⟩ := Kd.R_slice HO249.out
                            subst eo43
                            go_wp2_with (first | ((with_reducible refine gate_callee (f := 57) rfl ?_); refine goesL_ (some 72) rfl rfl Tryd.func57 (by kernel_rfl) rfl #[.slice Ao43 t246.length co43] rfl (by (try simp only [List.map_toArray, List.map_cons, List.map_nil]); first | done | rfl | (simp only [List.length_drop, List.length_take]; rfl)) ?_; (with_reducible refine (bits_Width.calls kj13 _ _ t246 t250 _ ?side1 ?side2 A33.out).mono ?_); (case side1 => repeat (first | exact (Kd.R_reads' HO249.out).2.2 | (with_reducible refine Kd.C_alloc ?_ _) | (with_reducible refine Kd.C_drewN ?_ _) | (with_reducible refine Kd.C_drew ?_))); (case side2 => exact (Kd.R_reads' HO249.out).2.1); rintro e w' ⟨rfl, ⟨nd, rfl⟩⟩; refine ⟨_, rfl, ?_⟩))
                            go_meet
                            case rel => exact ⟨_, (true), (by first | rfl | (simp; done) | (simp [*]; done)), H', ⟨by have := HJ2.out; have := HJ5.out; have := HJ13.out; first | omega | exact Nat.le_refl _⟩, ⟨by (with_reducible repeat (first | apply Kd.R_alloc | apply Kd.R_drewN | apply Kd.R_drew)); exact HO249.out⟩, ⟨by repeat (first | (with_reducible first | exact HB.out | apply below_alloc | apply pw_below_drewN | apply below_drew1 | refine below_set ?_ (IsS71.ge HI218.out)) | exact HB.out)⟩⟩
                        case rest =>
                          clear HC27
                          try clear c1
                          try clear c2
                          try clear p2
                          try clear c3
                          try clear c4
                          try clear c4b0
                          try clear c5
                          try clear p6
                          try clear c7
                          try clear c7b0
                          try clear c7b1
                          try clear c8
                          try clear c9
                          try clear c9b0
                          try clear c9b1
                          try clear c13
                          try clear c14
                          try clear c15
                          try clear c16
                          try clear c17
                          try clear c18
                          try clear c18b0
                          try clear c21
                          try clear c22
                          try clear c22b0
                          try clear c22b1
                          try clear c26
                          try clear c26b0
                          try clear c26b1
                          try clear c34
                          try clear c34b0
                          try clear c34b1
                          try clear c36
                          try clear c36b0
                          try clear c36b1
                          try clear p2
                          try clear p6
                          obtain ⟨kq, x85_26, rfl, HA, HJ26, HO_11, HB⟩ := hcut
                          cases kq with
                          | zero => exact absurd HA.out (by simp [fore_Get.j3])
                          | succ kj26 =>
                            have H := HA.out
                            clear HA
                            simp only [fore_Get.j3] at H
                            by_cases c44 : x85_26 = true
                            · subst c44
                              have H1 : (some (([] : List Int), 4)) = some (r1, r2) := by rw [if_pos rfl] at H; exact H
                              clear H
                              have H := H1
                              clear H1
                              simp only [Option.some.injEq, Prod.mk.injEq] at H
                              obtain ⟨rfl, rfl⟩ := H
                              go_wp2
                              go_ret2
                              exact ⟨_, by first | rfl | (simp [errW_none, errW_some] <;> rfl) | (simp [*, errW_none, errW_some] <;> rfl), by first | exact Kd.R_nil _ _ _ _ _ | exact Kd.N_nil _ _ _ _ _ | exact Kd.V_nil _ _ _ _ _ | exact Kd.Q_nil _ _ _ _ _ | exact Kd.S_nil _ _ _ _ _, by repeat (first | (with_reducible first | exact HB.out | apply below_alloc | apply pw_below_drewN | apply below_drew1) | exact HB.out)⟩
                            · replace c44 := Bool.eq_false_iff.mpr c44
                              subst c44
                              have H1 : (fore_Get.l0 kj26 t223 ([] : List Int) t246 (t246.length : Int) 0) = some (r1, r2) := by rw [if_neg (show ¬ (false = true) by decide)] at H; exact H
                              clear H
                              have H := H1
                              clear H1
                              have H' := Aside0.mk H
                              clear H
                              obtain ⟨Ao45, co45, eo45⟩ := Kd.R_slice HO_11.out
                              subst eo45
                              go_wp2
                              go_loopg [14, 88] kj26 (fun kq v14 v88 w' => ∃ (x14_5 : List Int) (x88_5 : Int), v88 = .int .i64 x88_5 ∧ Aside0 (fore_Get.l0 kq t223 x14_5 t246 (t246.length : Int) x88_5 = some (r1, r2)) ∧ Aside0 (kq ≤ kj26) ∧ Aside0 (Kd.R (Kd.int .i64) 2 w' w.heap.size (fun _ => True) v14 x14_5) ∧ Aside0 (Kd.R (Kd.int .u64) 22 w' w.heap.size (fun _ => True) (.slice Ao45 t246.length co45) t246) ∧ Aside0 (Below w.heap.size w w'))
                              case atStart => exact ⟨(([] : List Int)), (0), (by first | rfl | (simp; done) | (simp [*]; done)), H', ⟨Nat.le_refl _⟩, ⟨by first | exact Kd.R_nil _ _ _ _ _ | exact Kd.N_nil _ _ _ _ _ | exact Kd.V_nil _ _ _ _ _ | exact Kd.Q_nil _ _ _ _ _ | exact Kd.S_nil _ _ _ _ _⟩, ⟨by (with_reducible repeat (first | apply Kd.R_alloc | apply Kd.R_drewN | apply Kd.R_drew)); exact HO_11.out⟩, ⟨by repeat (first | (with_reducible first | exact HB.out | apply below_alloc | apply pw_below_drewN | apply below_drew1) | exact HB.out)⟩⟩
                              case round =>
                                clear H'
                                try clear c1
                                try clear c2
                                try clear p2
                                try clear c3
                                try clear c4
                                try clear c4b0
                                try clear c5
                                try clear p6
                                try clear c7
                                try clear c7b0
                                try clear c7b1
                                try clear c8
                                try clear c9
                                try clear c9b0
                                try clear c9b1
                                try clear c13
                                try clear c14
                                try clear c15
                                try clear c16
                                try clear c17
                                try clear c18
                                try clear c18b0
                                try clear c21
                                try clear c22
                                try clear c22b0
                                try clear c22b1
                                try clear c26
                                try clear c26b0
                                try clear c26b1
                                try clear c34
                                try clear c34b0
                                try clear c34b1
                                try clear c36
                                try clear c36b0
                                try clear c36b1
                                try clear c44
                                try clear p2
                                try clear p6
                                obtain ⟨x14_5, x88_5, rfl, HA, HK5, HO_14, HO_86, HB⟩ := hrel
                                cases gk with
                                | zero => exact absurd HA.out (by simp [fore_Get.l0])
                                | succ k5 =>
                                  have H := HA.out
                                  clear HA
                                  simp only [fore_Get.l0] at H
                                  by_cases c46 : x88_5 < (t246.length : Int)
                                  · rw [if_pos c46] at H
                                    have c46b0 : decide (x88_5 < (t246.length : Int)) = true := decide_eq_true c46
                                    clear c46
                                    by_cases c47 : 0 ≤ x88_5
                                    · rw [if_pos c47] at H
                                      have c47b0 : decide (0 ≤ x88_5) = true := decide_eq_true c47
                                      clear c47
                                      by_cases c48 : x88_5 < (t246.length : Int)
                                      · rw [if_pos c48] at H
                                        have c48b0 : decide (x88_5 < (t246.length : Int)) = true := decide_eq_true c48
                                        clear c48
                                        by_cases c49 : x14_5.length < 17592186044416
                                        · rw [if_pos c49] at H
                                          have LMc49 := Aside0.mk c49
                                          clear c49
                                          obtain ⟨y254, hy254⟩ : ∃ y_ : List Int, y_ = (x14_5 ++ [wrap64 (IntKind.u64.wrap ((IntKind.u64.wrap (t223)) + (rd t246 x88_5)))]) := ⟨_, rfl⟩
                                          replace H : (fore_Get.l0 k5 t223 y254 t246 (t246.length : Int) (wrap64 (x88_5 + 1))) = some (r1, r2) := by first | (rw [hy254]; with_reducible exact H) | (have H2_ := (Option.bind_some _ _).symm.trans H; rw [hy254]; with_reducible exact H2_) | (have H2_ := (Option.bind_some _ _).symm.trans H; with_reducible exact H2_) | with_reducible exact H | (rw [hy254]; exact H) | exact H
                                          have Ny254 := Aside0.mk hy254
                                          clear hy254
                                          have H' := Aside0.mk H
                                          clear H
                                          have p253 : 0 ≤ (x88_5 : Int) := of_decide_eq_true (by first | (with_reducible assumption) | assumption)
                                          have q253 : x88_5 < (t246.length : Int) := of_decide_eq_true (by first | (with_reducible assumption) | assumption)
                                          obtain ⟨ad253, e253, hx253_0⟩ := Kd.at_int (Kd.R_reads' HO_86.out).2.2 x88_5 p253 q253
                                          cases e253
                                          replace p253 := eq_true p253
                                          replace q253 := eq_true q253
                                          go_wp2_with (first | ((with_reducible refine gate_builtin (b := .append) (xs := #[.tmp 92, .tmp 98]) rfl ?_); (try (refine gate_guard (by rfl) ?_; dsimp only)); at_builtin; refine Kd.R_append (Kd.int .i64) (w0 := w) w.heap.size rfl (.tmp 92) (.tmp 98) 54 2 (.int .i64 0) 8 rfl Tryd.underlying54 info2 rfl (by decide) (by omega) u14 x14_5 (wrap64 (IntKind.u64.wrap ((IntKind.u64.wrap (t223)) + (rd t246 x88_5)))) [.int .i64 (wrap64 (IntKind.u64.wrap ((IntKind.u64.wrap (t223)) + (rd t246 x88_5))))] (fun _ => True) (fun _ => False) rfl rfl ?aP (fun _ hk => hk.elim) ?aF ?aO ?aB ?aS ?aL ?_; (case aP => exact rfl); (case aB => exact (by repeat (first | (with_reducible first | exact HB.out | apply below_alloc | apply pw_below_drewN | apply below_drew1) | exact HB.out))); (case aF => exact (fun _ _ => trivial)); (case aO => exact (by (with_reducible repeat (first | apply Kd.R_alloc | apply Kd.R_drewN | apply Kd.R_drew)); exact HO_14.out)); (case aS => exact (below_size (by repeat (first | (with_reducible first | exact HB.out | apply below_alloc | apply pw_below_drewN | apply below_drew1) | exact HB.out)))); (case aL => have := LMc49.out; omega); intro v255 w50 ho hb hg hat; rw [← Ny254.out] at ho; have n0_ := Aside0.mk (Kd.R_over' (by (with_reducible repeat (first | apply Kd.R_alloc | apply Kd.R_drewN | apply Kd.R_drew)); exact HO_86.out) (Kd.R_typed (by (with_reducible repeat (first | apply Kd.R_alloc | apply Kd.R_drewN | apply Kd.R_drew)); exact HO_14.out)) (by decide) hg); have n1_ := Aside0.mk (hb); have n2_ := Aside0.mk (ho); clear HO_86; clear HB; clear HO_14; have HO_86 := n0_; have HB := n1_; have HO256 := n2_; clear n0_ n1_ n2_; clear ho hb hg hat))
                                          go_roundg k5
                                          case measure => have := HJ2.out; have := HJ5.out; have := HJ13.out; have := HJ26.out; have := HK5.out; omega
                                          case rel => exact ⟨(y254), (wrap64 (x88_5 + 1)), (by first | rfl | (simp; done) | (simp [*]; done)), H', ⟨by have := HJ2.out; have := HJ5.out; have := HJ13.out; have := HJ26.out; have := HK5.out; omega⟩, ⟨by (with_reducible repeat (first | apply Kd.R_alloc | apply Kd.R_drewN | apply Kd.R_drew)); exact HO256.out⟩, ⟨by (with_reducible repeat (first | apply Kd.R_alloc | apply Kd.R_drewN | apply Kd.R_drew)); exact HO_86.out⟩, ⟨by repeat (first | (with_reducible first | exact HB.out | apply below_alloc | apply pw_below_drewN | apply below_drew1) | exact HB.out)⟩⟩
                                        · rw [if_neg c49] at H
                                          exact absurd H (by simp)
                                      · rw [if_neg c48] at H
                                        exact absurd H (by simp)
                                    · rw [if_neg c47] at H
                                      exact absurd H (by simp)
                                  · rw [if_neg c46] at H
                                    have c46b0 : decide (x88_5 < (t246.length : Int)) = false := decide_eq_false c46
                                    clear c46
                                    simp only [Option.some.injEq, Prod.mk.injEq] at H
                                    obtain ⟨rfl, rfl⟩ := H
                                    go_wp2
                                    go_ret2
                                    exact ⟨_, by first | rfl | (simp [errW_none, errW_some] <;> rfl) | (simp [*, errW_none, errW_some] <;> rfl), by (with_reducible repeat (first | apply Kd.R_alloc | apply Kd.R_drewN | apply Kd.R_drew)); exact HO_14.out, by repeat (first | (with_reducible first | exact HB.out | apply below_alloc | apply pw_below_drewN | apply below_drew1) | exact HB.out)⟩
                      · rw [if_neg c26] at H
                        have c26b0 : (t247 == 0) = false := beq_eq_false_iff_ne.mpr c26
                        have c26b1 : (t247 != 0) = true := bne_iff_ne.mpr c26
                        simp only [Option.some.injEq, Prod.mk.injEq] at H
                        obtain ⟨rfl, rfl⟩ := H
                        go_wp2_with (first | ((with_reducible refine gate_callee (f := 16) rfl ?_); refine goesL_ (some 49) rfl rfl Tryd.func16 (by kernel_rfl) rfl #[.pointer (some ⟨g218, 0, none⟩)] rfl (by (try simp only [List.map_toArray, List.map_cons, List.map_nil]); first | done | rfl | (simp only [List.length_drop, List.length_take]; rfl)) ?_; (with_reducible refine (num_Reader_Err.calls g218 t214 x219001_13 x219002_13 x219003_13 t231 t232 t233 t234 t235 w _ ?side1 ?side2 A21.out).mono ?_); (case side1 => repeat (first | (with_reducible first | exact HI218.out | apply IsS71.alloc | apply IsS71.drewN | apply IsS71.drew | apply IsS71.set_1 | apply IsS71.set_2 | apply IsS71.set_3) | exact HI218.out)); (case side2 => repeat (first | (with_reducible first | exact HB.out | apply below_alloc | apply pw_below_drewN | apply below_drew1 | refine below_set ?_ (IsS71.ge HI218.out)) | exact HB.out)); rintro e w51 ⟨rfl, hi, hb, hk⟩; refine ⟨_, rfl, ?_⟩; have n0_ := Aside0.mk (hb); have n1_ := Aside0.mk (hi); clear HB; clear HI218; have HB := n0_; have HI218 := n1_; clear n0_ n1_; (try clear hb); (try clear hb2); (try clear hk); (try clear hi)) | ((with_reducible refine gate_callee (f := 21) rfl ?_); refine goesL_ (some 58) rfl rfl Tryd.func21 (by kernel_rfl) rfl #[.pointer (some ⟨g218, 0, none⟩)] rfl (by (try simp only [List.map_toArray, List.map_cons, List.map_nil]); first | done | rfl | (simp only [List.length_drop, List.length_take]; rfl)) ?_; (with_reducible refine (num_Reader_Left.calls g218 t214 t233 t234 t235 t236 t237 t238 t239 w _ ?side1 ?side2 A23.out).mono ?_); (case side1 => repeat (first | (with_reducible first | exact HI218.out | apply IsS71.alloc | apply IsS71.drewN | apply IsS71.drew | apply IsS71.set_1 | apply IsS71.set_2 | apply IsS71.set_3) | exact HI218.out)); (case side2 => repeat (first | (with_reducible first | exact HB.out | apply below_alloc | apply pw_below_drewN | apply below_drew1 | refine below_set ?_ (IsS71.ge HI218.out)) | exact HB.out)); rintro e w52 ⟨rfl, hi, hb, hk⟩; refine ⟨_, rfl, ?_⟩; have n0_ := Aside0.mk (hb); have n1_ := Aside0.mk (hi); clear HB; clear HI218; have HB := n0_; have HI218 := n1_; clear n0_ n1_; (try clear hb); (try clear hb2); (try clear hk); (try clear hi)) | ((with_reducible refine gate_callee (f := 14) rfl ?_); refine goesL_ (some 59) rfl rfl Tryd.func14 (by kernel_rfl) rfl #[.pointer (some ⟨g218, 0, none⟩), .int .i64 t236] rfl (by (try simp only [List.map_toArray, List.map_cons, List.map_nil]); first | done | rfl | (simp only [List.length_drop, List.length_take]; rfl)) ?_; (with_reducible refine (num_Reader_Take.calls g218 t214 t237 t238 t239 t236 t240 t243 t244 t245 w _ ?side1 ?side2 A24.out).mono ?_); (case side1 => repeat (first | (with_reducible first | exact HI218.out | apply IsS71.alloc | apply IsS71.drewN | apply IsS71.drew | apply IsS71.set_1 | apply IsS71.set_2 | apply IsS71.set_3) | exact HI218.out)); (case side2 => repeat (first | (with_reducible first | exact HB.out | apply below_alloc | apply pw_below_drewN | apply below_drew1 | refine below_set ?_ (IsS71.ge HI218.out)) | exact HB.out)); rintro e w53 ⟨v241, rfl, ho0, hi, hb, hk⟩; refine ⟨_, rfl, ?_⟩; have n0_ := Aside0.mk (Kd.R_lower ho0 (below_size (by repeat (first | (with_reducible first | exact HB.out | apply below_alloc | apply pw_below_drewN | apply below_drew1 | refine below_set ?_ (IsS71.ge HI218.out)) | exact HB.out)))); have n1_ := Aside0.mk (hb); have n2_ := Aside0.mk (hi); clear HB; clear HI218; have HO242 := n0_; have HB := n1_; have HI218 := n2_; clear n0_ n1_ n2_; (try clear hb); (try clear hb2); (try clear hk); (try clear hi); (try clear ho0); obtain ⟨Ao54, co54, eo54⟩ := Kd.R_slice HO242.out; subst eo54) | ((with_reducible refine gate_callee (f := 56) rfl ?_); refine goesL_ (some 62) rfl rfl Tryd.func56 (by kernel_rfl) rfl #[.slice Ao54 t240.length co54, .int .i64 a1, .int .i64 (wrap64 (t224))] rfl (by (try simp only [List.map_toArray, List.map_cons, List.map_nil]); first | done | rfl | (simp only [List.length_drop, List.length_take]; rfl)) ?_; (with_reducible refine (bits_Unpack.calls kj13 _ _ t240 a1 (wrap64 (t224)) t246 t247 _ ?side1 ?side2 A25.out).mono ?_); (case side1 => repeat (first | exact (Kd.R_reads' HO242.out).2.2 | (with_reducible refine Kd.C_alloc ?_ _) | (with_reducible refine Kd.C_drewN ?_ _) | (with_reducible refine Kd.C_drew ?_))); (case side2 => exact (Kd.R_reads' HO242.out).2.1); rintro e w55 ⟨v248, rfl, ho0, hb⟩; refine ⟨_, rfl, ?_⟩; have n0_ := Aside0.mk (Kd.R_below (by (with_reducible repeat (first | apply Kd.R_alloc | apply Kd.R_drewN | apply Kd.R_drew)); exact HO242.out) hb); have n1_ := Aside0.mk (Kd.R_lower ho0 (below_size (by repeat (first | (with_reducible first | exact HB.out | apply below_alloc | apply pw_below_drewN | apply below_drew1 | refine below_set ?_ (IsS71.ge HI218.out)) | exact HB.out)))); have n2_ := Aside0.mk (IsS71.below (by repeat (first | (with_reducible first | exact HI218.out | apply IsS71.alloc | apply IsS71.drewN | apply IsS71.drew | apply IsS71.set_1 | apply IsS71.set_2 | apply IsS71.set_3) | exact HI218.out)) hb); have n3_ := Aside0.mk (below_step (by repeat (first | (with_reducible first | exact HB.out | apply below_alloc | apply pw_below_drewN | apply below_drew1 | refine below_set ?_ (IsS71.ge HI218.out)) | exact HB.out)) hb); clear HO242; clear HI218; clear HB; have HO242 := n0_; have HO249 := n1_; have HI218 := n2_; have HB := n3_; clear n0_ n1_ n2_ n3_; (try clear hb); (try clear hb2); (try clear hk); (try clear hi); (try clear ho0)))
                        go_ret2
                        exact ⟨_, by first | rfl | (simp [errW_none, errW_some] <;> rfl) | (simp [*, errW_none, errW_some] <;> rfl), by first | exact Kd.R_nil _ _ _ _ _ | exact Kd.N_nil _ _ _ _ _ | exact Kd.V_nil _ _ _ _ _ | exact Kd.Q_nil _ _ _ _ _ | exact Kd.S_nil _ _ _ _ _, by repeat (first | (with_reducible first | exact HB.out | apply below_alloc | apply pw_below_drewN | apply below_drew1 | refine below_set ?_ (IsS71.ge HI218.out)) | exact HB.out)⟩
                    · rw [if_neg c22] at H
                      have c22b0 : (t231 == 0) = false := beq_eq_false_iff_ne.mpr c22
                      have c22b1 : (t231 != 0) = true := bne_iff_ne.mpr c22
                      simp only [Option.some.injEq, Prod.mk.injEq] at H
                      obtain ⟨rfl, rfl⟩ := H
                      go_wp2_with (first | ((with_reducible refine gate_callee (f := 16) rfl ?_); refine goesL_ (some 49) rfl rfl Tryd.func16 (by kernel_rfl) rfl #[.pointer (some ⟨g218, 0, none⟩)] rfl (by (try simp only [List.map_toArray, List.map_cons, List.map_nil]); first | done | rfl | (simp only [List.length_drop, List.length_take]; rfl)) ?_; (with_reducible refine (num_Reader_Err.calls g218 t214 x219001_13 x219002_13 x219003_13 t231 t232 t233 t234 t235 w _ ?side1 ?side2 A21.out).mono ?_); (case side1 => repeat (first | (with_reducible first | exact HI218.out | apply IsS71.alloc | apply IsS71.drewN | apply IsS71.drew | apply IsS71.set_1 | apply IsS71.set_2 | apply IsS71.set_3) | exact HI218.out)); (case side2 => repeat (first | (with_reducible first | exact HB.out | apply below_alloc | apply pw_below_drewN | apply below_drew1 | refine below_set ?_ (IsS71.ge HI218.out)) | exact HB.out)); rintro e w56 ⟨rfl, hi, hb, hk⟩; refine ⟨_, rfl, ?_⟩; have n0_ := Aside0.mk (hb); have n1_ := Aside0.mk (hi); clear HB; clear HI218; have HB := n0_; have HI218 := n1_; clear n0_ n1_; (try clear hb); (try clear hb2); (try clear hk); (try clear hi)))
                      go_ret2
                      exact ⟨_, by first | rfl | (simp [errW_none, errW_some] <;> rfl) | (simp [*, errW_none, errW_some] <;> rfl), by first | exact Kd.R_nil _ _ _ _ _ | exact Kd.N_nil _ _ _ _ _ | exact Kd.V_nil _ _ _ _ _ | exact Kd.Q_nil _ _ _ _ _ | exact Kd.S_nil _ _ _ _ _, by repeat (first | (with_reducible first | exact HB.out | apply below_alloc | apply pw_below_drewN | apply below_drew1 | refine below_set ?_ (IsS71.ge HI218.out)) | exact HB.out)⟩

/-- A state of type 47 at block g of W; what its slices lead to came in by w0. -/
def IsS47 (w0 W : World) (g : Nat) (f0 : List Int) (f1 : Int) (f2 : Int) (f3 : Int) : Prop := ∃ A0 c0, W.heap[g]? = some (.cells #[.slice A0 f0.length c0, .int .i64 f1, .int .i64 f2, .int .i64 f3] 47 (0, 0)) ∧ w0.heap.size ≤ g ∧ Kd.C (Kd.int .u8) w0 A0 f0.length f0 ∧ f0.length ≤ c0
theorem IsS47.grown {w0 W : World} {g : Nat} {f0 : List Int} {f1 : Int} {f2 : Int} {f3 : Int} {W1 : World} {row : Option Nat} (h : IsS47 w0 W g f0 f1 f2 f3) (hw : W.grownBy W1 row) (hne : some g ≠ row) : IsS47 w0 W1 g f0 f1 f2 f3 := by
  obtain ⟨A0, c0, hb, hg, hr0, hl0⟩ := h
  exact ⟨A0, c0, blk_grown hb hw hne, hg, hr0, hl0⟩
theorem IsS47.own_neN {w0 W : World} {g : Nat} {f0 : List Int} {f1 : Int} {f2 : Int} {f3 : Int} {α : Type} {d : Kd α} {e : Nat} {base : Nat} {ok : Nat → Prop} {v : Value} {xs : List α} (h : IsS47 w0 W g f0 f1 f2 f3) (ho : Kd.N d e W base ok v xs) (ht : e ≠ 47) : some g ≠ v.ownBlock := by
  obtain ⟨A0, c0, hb, hg, hr0, hl0⟩ := h
  exact Kd.N_ne ho hb ht
theorem IsS47.fresh {w0 W : World} {g : Nat} {f0 : List Int} {f1 : Int} {f2 : Int} {f3 : Int} (h : IsS47 w0 W g f0 f1 f2 f3) : ∀ k, W.heap.size ≤ k → k ≠ g := by
  obtain ⟨A0, c0, hb, hg, hr0, hl0⟩ := h
  exact Kd.freshB hb
theorem IsS47.kept {w0 W : World} {g : Nat} {f0 : List Int} {f1 : Int} {f2 : Int} {f3 : Int} {W1 : World} {S : Nat → Prop} (h : IsS47 w0 W g f0 f1 f2 f3) (hk : Kept W W1 S) (hne : ¬ S g) : IsS47 w0 W1 g f0 f1 f2 f3 := by
  obtain ⟨A0, c0, hb, hg, hr0, hl0⟩ := h
  exact ⟨A0, c0, blk_kept hb hk hne, hg, hr0, hl0⟩
theorem IsS47.below {w0 W : World} {g : Nat} {f0 : List Int} {f1 : Int} {f2 : Int} {f3 : Int} {W1 : World} (h : IsS47 w0 W g f0 f1 f2 f3) (hw : Below W.heap.size W W1) : IsS47 w0 W1 g f0 f1 f2 f3 := h.grown (grown_of_below hw none) (by simp)
theorem IsS47.alloc {w0 W : World} {g : Nat} {f0 : List Int} {f1 : Int} {f2 : Int} {f3 : Int} (h : IsS47 w0 W g f0 f1 f2 f3) (o : Obj) : IsS47 w0 (W.alloc o) g f0 f1 f2 f3 := h.below (below_alloc (Below.refl _ _) o)
theorem IsS47.drewN {w0 W : World} {g : Nat} {f0 : List Int} {f1 : Int} {f2 : Int} {f3 : Int} (h : IsS47 w0 W g f0 f1 f2 f3) (m : Nat) : IsS47 w0 (W.drewN m) g f0 f1 f2 f3 := h
theorem IsS47.drew {w0 W : World} {g : Nat} {f0 : List Int} {f1 : Int} {f2 : Int} {f3 : Int} (h : IsS47 w0 W g f0 f1 f2 f3) : IsS47 w0 W.drew g f0 f1 f2 f3 := h
theorem IsS47.at_ {w0 W : World} {g : Nat} {f0 : List Int} {f1 : Int} {f2 : Int} {f3 : Int} {w' : World} {m : Nat} (hq : W.drewN m = w') (h : IsS47 w0 W g f0 f1 f2 f3) : IsS47 w0 w' g f0 f1 f2 f3 := by subst hq; exact IsS47.drewN h m
theorem IsS47.apart {w0 W : World} {g : Nat} {f0 : List Int} {f1 : Int} {f2 : Int} {f3 : Int} {α : Type} {d : Kd α} {e : Nat} {base : Nat} {ok : Nat → Prop} {v : Value} {xs : List α} (h : IsS47 w0 W g f0 f1 f2 f3) (ho : d.R e W base ok v xs) (ht : ∀ q, q ∈ e :: d.E → q ≠ 47) : d.R e W base (fun k => ok k ∧ k ≠ g) v xs := by
  obtain ⟨A0, c0, hb, hg, hr0, hl0⟩ := h
  exact Kd.R_types ho hb ht
theorem IsS47.own_ne {w0 W : World} {g : Nat} {f0 : List Int} {f1 : Int} {f2 : Int} {f3 : Int} {α : Type} {d : Kd α} {e : Nat} {base : Nat} {ok : Nat → Prop} {v : Value} {xs : List α} (h : IsS47 w0 W g f0 f1 f2 f3) (ho : d.R e W base ok v xs) (ht : e ≠ 47) : some g ≠ v.ownBlock := by
  obtain ⟨A0, c0, hb, hg, hr0, hl0⟩ := h
  exact Kd.R_ne ho hb ht
theorem IsS47.apartQ {w0 W : World} {g : Nat} {f0 : List Int} {f1 : Int} {f2 : Int} {f3 : Int} {α : Type} {d : Kd α} {e : Nat} {base : Nat} {ok : Nat → Prop} {v : Value} {xs : List α} (h : IsS47 w0 W g f0 f1 f2 f3) (ho : d.Q e W base ok v xs) (ht : ∀ q, q ∈ e :: d.E → q ≠ 47) : d.Q e W base (fun k => ok k ∧ k ≠ g) v xs := by
  obtain ⟨A0, c0, hb, hg, hr0, hl0⟩ := h
  exact Kd.Q_types ho hb ht
theorem IsS47.own_neQ {w0 W : World} {g : Nat} {f0 : List Int} {f1 : Int} {f2 : Int} {f3 : Int} {α : Type} {d : Kd α} {e : Nat} {base : Nat} {ok : Nat → Prop} {v : Value} {xs : List α} (h : IsS47 w0 W g f0 f1 f2 f3) (ho : d.Q e W base ok v xs) (ht : e ≠ 47) : some g ≠ v.ownBlock := by
  obtain ⟨A0, c0, hb, hg, hr0, hl0⟩ := h
  exact Kd.Q_ne ho hb ht
theorem IsS47.apartS {w0 W : World} {g : Nat} {f0 : List Int} {f1 : Int} {f2 : Int} {f3 : Int} {α : Type} {d : Kd α} {e : Nat} {base : Nat} {ok : Nat → Prop} {v : Value} {xs : List α} (h : IsS47 w0 W g f0 f1 f2 f3) (ho : d.S e W base ok v xs) (ht : ∀ q, q ∈ e :: d.E → q ≠ 47) : d.S e W base (fun k => ok k ∧ k ≠ g) v xs := by
  obtain ⟨A0, c0, hb, hg, hr0, hl0⟩ := h
  exact Kd.S_types ho hb ht
theorem IsS47.own_neS {w0 W : World} {g : Nat} {f0 : List Int} {f1 : Int} {f2 : Int} {f3 : Int} {α : Type} {d : Kd α} {e : Nat} {base : Nat} {ok : Nat → Prop} {v : Value} {xs : List α} (h : IsS47 w0 W g f0 f1 f2 f3) (ho : d.S e W base ok v xs) (ht : e ≠ 47) : some g ≠ v.ownBlock := by
  obtain ⟨A0, c0, hb, hg, hr0, hl0⟩ := h
  exact Kd.S_ne ho hb ht
theorem IsS47.lt {w0 W : World} {g : Nat} {f0 : List Int} {f1 : Int} {f2 : Int} {f3 : Int} (h : IsS47 w0 W g f0 f1 f2 f3) : g < W.heap.size := by
  obtain ⟨A0, c0, hb, hg, hr0, hl0⟩ := h
  exact blk_lt hb
theorem IsS47.ge {w0 W : World} {g : Nat} {f0 : List Int} {f1 : Int} {f2 : Int} {f3 : Int} (h : IsS47 w0 W g f0 f1 f2 f3) : w0.heap.size ≤ g := by
  obtain ⟨A0, c0, hb, hg, hr0, hl0⟩ := h
  exact hg
theorem IsS47.ne_blk {w0 W : World} {g : Nat} {f0 : List Int} {f1 : Int} {f2 : Int} {f3 : Int} {a : Nat} {cs : Array Value} {t : TypeId} {fr : Nat × Nat} (h : IsS47 w0 W g f0 f1 f2 f3) (hb2 : W.heap[a]? = some (.cells cs t fr)) (ht : t ≠ 47) : g ≠ a := by
  obtain ⟨A0, c0, hb, hg, hr0, hl0⟩ := h
  rintro rfl
  rw [hb] at hb2
  injection hb2 with hb2
  injection hb2 with _ ht2
  exact ht ht2.symm
theorem IsS47.far {w0 W : World} {g : Nat} {f0 : List Int} {f1 : Int} {f2 : Int} {f3 : Int} {p : Addr} (h : IsS47 w0 W g f0 f1 f2 f3) (hne : g ≠ p.block) (u : Value) : IsS47 w0 (W.setCell p u) g f0 f1 f2 f3 := by
  obtain ⟨A0, c0, hb, hg, hr0, hl0⟩ := h
  exact ⟨A0, c0, blk_far hb hne u, hg, hr0, hl0⟩
theorem cellS47_0 {W : World} {g : Nat} {A0 : Option Addr} {c0 : Nat} {f0 : List Int} {f1 : Int} {f2 : Int} {f3 : Int} (h : W.heap[g]? = some (.cells #[.slice A0 f0.length c0, .int .i64 f1, .int .i64 f2, .int .i64 f3] 47 (0, 0))) : W.cell? ⟨g, 0, none⟩ = some (.slice A0 f0.length c0) := (blk_cell h 0).trans rfl
theorem cellS47_1 {W : World} {g : Nat} {A0 : Option Addr} {c0 : Nat} {f0 : List Int} {f1 : Int} {f2 : Int} {f3 : Int} (h : W.heap[g]? = some (.cells #[.slice A0 f0.length c0, .int .i64 f1, .int .i64 f2, .int .i64 f3] 47 (0, 0))) : W.cell? ⟨g, 1, none⟩ = some (.int .i64 f1) := (blk_cell h 1).trans rfl
theorem IsS47.set_1 {w0 W : World} {g : Nat} {f0 : List Int} {f1 : Int} {f2 : Int} {f3 : Int} (h : IsS47 w0 W g f0 f1 f2 f3) (x : Int) : IsS47 w0 (W.setCell ⟨g, 1, none⟩ (.int .i64 x)) g f0 x f2 f3 := by
  obtain ⟨A0, c0, hb, hg, hr0, hl0⟩ := h
  exact ⟨A0, c0, by simpa using blk_set hb 1 (.int .i64 x), hg, hr0, hl0⟩
theorem cellS47_2 {W : World} {g : Nat} {A0 : Option Addr} {c0 : Nat} {f0 : List Int} {f1 : Int} {f2 : Int} {f3 : Int} (h : W.heap[g]? = some (.cells #[.slice A0 f0.length c0, .int .i64 f1, .int .i64 f2, .int .i64 f3] 47 (0, 0))) : W.cell? ⟨g, 2, none⟩ = some (.int .i64 f2) := (blk_cell h 2).trans rfl
theorem IsS47.set_2 {w0 W : World} {g : Nat} {f0 : List Int} {f1 : Int} {f2 : Int} {f3 : Int} (h : IsS47 w0 W g f0 f1 f2 f3) (x : Int) : IsS47 w0 (W.setCell ⟨g, 2, none⟩ (.int .i64 x)) g f0 f1 x f3 := by
  obtain ⟨A0, c0, hb, hg, hr0, hl0⟩ := h
  exact ⟨A0, c0, by simpa using blk_set hb 2 (.int .i64 x), hg, hr0, hl0⟩
theorem cellS47_3 {W : World} {g : Nat} {A0 : Option Addr} {c0 : Nat} {f0 : List Int} {f1 : Int} {f2 : Int} {f3 : Int} (h : W.heap[g]? = some (.cells #[.slice A0 f0.length c0, .int .i64 f1, .int .i64 f2, .int .i64 f3] 47 (0, 0))) : W.cell? ⟨g, 3, none⟩ = some (.int .i64 f3) := (blk_cell h 3).trans rfl
theorem IsS47.set_3 {w0 W : World} {g : Nat} {f0 : List Int} {f1 : Int} {f2 : Int} {f3 : Int} (h : IsS47 w0 W g f0 f1 f2 f3) (x : Int) : IsS47 w0 (W.setCell ⟨g, 3, none⟩ (.int .i64 x)) g f0 f1 f2 x := by
  obtain ⟨A0, c0, hb, hg, hr0, hl0⟩ := h
  exact ⟨A0, c0, by simpa using blk_set hb 3 (.int .i64 x), hg, hr0, hl0⟩
theorem IsS47.new (w0 W : World) (A0 : Option Addr) (c0 : Nat) (f0 : List Int) (f1 : Int) (f2 : Int) (f3 : Int) (hB : Below w0.heap.size w0 W) (hr0 : Kd.C (Kd.int .u8) w0 A0 f0.length f0) (hl0 : f0.length ≤ c0) : IsS47 w0 (W.alloc (.cells #[.slice A0 f0.length c0, .int .i64 f1, .int .i64 f2, .int .i64 f3] 47)) W.heap.size f0 f1 f2 f3 := ⟨A0, c0, by simpa using heap_alloc_new W _, hB.size, hr0, hl0⟩

/-! ### estreatref01_Reader_Fail: function 32 -/
def estreatref01_Reader_Fail.f (s0_0 : List Int) (s0_1 : Int) (s0_2 : Int) (s0_3 : Int) (a1 : Int) : Option (Int × Int × Int) := if s0_2 = 0 then (if a1 = 0 then (some (s0_1, s0_2, s0_3)) else (some (s0_1, a1, s0_1))) else (some (s0_1, s0_2, s0_3))
set_option maxHeartbeats 8000000 in
set_option maxRecDepth 100000 in
theorem estreatref01_Reader_Fail.calls (g : Nat) (s0_0 : List Int) (s0_1 : Int) (s0_2 : Int) (s0_3 : Int) (a1 : Int) (r1 : Int) (r2 : Int) (r3 : Int) (w0 w : World) (hI : IsS47 w0 w g s0_0 s0_1 s0_2 s0_3) (hB : Below w0.heap.size w0 w) (h : estreatref01_Reader_Fail.f s0_0 s0_1 s0_2 s0_3 a1 = some (r1, r2, r3)) :
    Calls Tryd.prog 32 #[.pointer (some ⟨g, 0, none⟩), .int .i64 a1] w fun e w' => e = .returned (.tuple #[]) ∧ IsS47 w0 w' g s0_0 r1 r2 r3 ∧ Below w0.heap.size w0 w' ∧ KeepBut w w' g none := by
  have HI0 := Aside0.mk hI
  have HK := Aside0.mk (KeepBut.refl w g none)
  have HL := Aside0.mk hB.size
  clear hI
  have HW0 := Aside0.mk hB.size
  have HB := Aside0.mk hB
  clear hB
  have H : (if s0_2 = 0 then (if a1 = 0 then (some (s0_1, s0_2, s0_3)) else (some (s0_1, a1, s0_1))) else (some (s0_1, s0_2, s0_3))) = some (r1, r2, r3) := h
  clear h
  by_cases c3 : s0_2 = 0
  · rw [if_pos c3] at H
    have c3b0 : (s0_2 == 0) = true := beq_iff_eq.mpr c3
    have c3b1 : (s0_2 != 0) = false := bne_eq_false_iff_eq.mpr c3
    clear c3
    by_cases c4 : a1 = 0
    · rw [if_pos c4] at H
      have c4b0 : (a1 == 0) = true := beq_iff_eq.mpr c4
      have c4b1 : (a1 != 0) = false := bne_eq_false_iff_eq.mpr c4
      clear c4
      simp only [Option.some.injEq, Prod.mk.injEq] at H
      obtain ⟨rfl, rfl, rfl⟩ := H
      obtain ⟨ASz5_0, cSz5_0, HGz5, hgz5, HSz5_0⟩ := HI0.out
      have hcz5_0 := cellS47_0 HGz5
      have hcz5_1 := cellS47_1 HGz5
      have hcz5_2 := cellS47_2 HGz5
      have hcz5_3 := cellS47_3 HGz5
      have hfz5_1 := blk_frozen HGz5 1
      have hfz5_2 := blk_frozen HGz5 2
      have hfz5_3 := blk_frozen HGz5 3
      clear HGz5 hgz5
      go_enter Tryd.func32, Tryd.ntmps32
      go_wp2
      first | go_end0 | ((try simp only [Exit.inBlock, Exit.then]); refine bodyPost_ret (results_none rfl _ _ _) rfl ?_)
      exact ⟨by first | rfl | (simp [errW_none, errW_some] <;> rfl) | (simp [*, errW_none, errW_some] <;> rfl), by repeat (first | (with_reducible first | exact HI0.out | apply IsS47.alloc | apply IsS47.drewN | apply IsS47.drew | apply IsS47.set_1 | apply IsS47.set_2 | apply IsS47.set_3) | exact HI0.out), by repeat (first | (with_reducible first | exact HB.out | apply below_alloc | apply pw_below_drewN | apply below_drew1 | refine below_set ?_ (IsS47.ge HI0.out)) | exact HB.out), by repeat (first | (with_reducible first | exact HK.out | apply KeepBut.set_ | apply keep_drewN | apply keep_drew | apply keep_alloc) | exact HK.out)⟩
    · rw [if_neg c4] at H
      have c4b0 : (a1 == 0) = false := beq_eq_false_iff_ne.mpr c4
      have c4b1 : (a1 != 0) = true := bne_iff_ne.mpr c4
      simp only [Option.some.injEq, Prod.mk.injEq] at H
      obtain ⟨rfl, rfl, rfl⟩ := H
      obtain ⟨ASz6_0, cSz6_0, HGz6, hgz6, HSz6_0⟩ := HI0.out
      have hcz6_0 := cellS47_0 HGz6
      have hcz6_1 := cellS47_1 HGz6
      have hcz6_2 := cellS47_2 HGz6
      have hcz6_3 := cellS47_3 HGz6
      have hfz6_1 := blk_frozen HGz6 1
      have hfz6_2 := blk_frozen HGz6 2
      have hfz6_3 := blk_frozen HGz6 3
      clear HGz6 hgz6
      go_enter Tryd.func32, Tryd.ntmps32
      go_wp2
      first | go_end0 | ((try simp only [Exit.inBlock, Exit.then]); refine bodyPost_ret (results_none rfl _ _ _) rfl ?_)
      exact ⟨by first | rfl | (simp [errW_none, errW_some] <;> rfl) | (simp [*, errW_none, errW_some] <;> rfl), by repeat (first | (with_reducible first | exact HI0.out | apply IsS47.alloc | apply IsS47.drewN | apply IsS47.drew | apply IsS47.set_1 | apply IsS47.set_2 | apply IsS47.set_3) | exact HI0.out), by repeat (first | (with_reducible first | exact HB.out | apply below_alloc | apply pw_below_drewN | apply below_drew1 | refine below_set ?_ (IsS47.ge HI0.out)) | exact HB.out), by repeat (first | (with_reducible first | exact HK.out | apply KeepBut.set_ | apply keep_drewN | apply keep_drew | apply keep_alloc) | exact HK.out)⟩
  · rw [if_neg c3] at H
    have c3b0 : (s0_2 == 0) = false := beq_eq_false_iff_ne.mpr c3
    have c3b1 : (s0_2 != 0) = true := bne_iff_ne.mpr c3
    simp only [Option.some.injEq, Prod.mk.injEq] at H
    obtain ⟨rfl, rfl, rfl⟩ := H
    obtain ⟨ASz7_0, cSz7_0, HGz7, hgz7, HSz7_0⟩ := HI0.out
    have hcz7_0 := cellS47_0 HGz7
    have hcz7_1 := cellS47_1 HGz7
    have hcz7_2 := cellS47_2 HGz7
    have hcz7_3 := cellS47_3 HGz7
    have hfz7_1 := blk_frozen HGz7 1
    have hfz7_2 := blk_frozen HGz7 2
    have hfz7_3 := blk_frozen HGz7 3
    clear HGz7 hgz7
    go_enter Tryd.func32, Tryd.ntmps32
    go_wp2
    first | go_end0 | ((try simp only [Exit.inBlock, Exit.then]); refine bodyPost_ret (results_none rfl _ _ _) rfl ?_)
    exact ⟨by first | rfl | (simp [errW_none, errW_some] <;> rfl) | (simp [*, errW_none, errW_some] <;> rfl), by repeat (first | (with_reducible first | exact HI0.out | apply IsS47.alloc | apply IsS47.drewN | apply IsS47.drew | apply IsS47.set_1 | apply IsS47.set_2 | apply IsS47.set_3) | exact HI0.out), by repeat (first | (with_reducible first | exact HB.out | apply below_alloc | apply pw_below_drewN | apply below_drew1 | refine below_set ?_ (IsS47.ge HI0.out)) | exact HB.out), by repeat (first | (with_reducible first | exact HK.out | apply KeepBut.set_ | apply keep_drewN | apply keep_drew | apply keep_alloc) | exact HK.out)⟩

end Go.Proofs.YtjmhfbgpebgcmaaDoor.PForeGets
