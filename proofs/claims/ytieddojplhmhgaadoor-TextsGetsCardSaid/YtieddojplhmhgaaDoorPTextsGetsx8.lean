/- WRITTEN BY A PROGRAM of this session (wip/tool: a turned copy of the printer), out of the translation: Lean functions with the answers of the Go functions, and the proofs that the Go code comes to them. -/
import Derived.Test.YtieddojplhmhgaaDoorPTextsGetsx0
import Derived.Test.YtieddojplhmhgaaDoorPTextsGetsx1
import Derived.Test.YtieddojplhmhgaaDoorPTextsGetsx3
import Derived.Test.YtieddojplhmhgaaDoorPTextsGetsx4
import Derived.Test.YtieddojplhmhgaaDoorPTextsGetsx5
import Derived.Test.YtieddojplhmhgaaDoorPTextsGetsx7
namespace Go.Proofs.YtieddojplhmhgaaDoor.PTextsGets
open Go.RowKit Go.Proofs.YtieddojplhmhgaaDoorW.PrintWords Go.Proofs.YtieddojplhmhgaaDoorW.PrintLast Go.Proofs.YtieddojplhmhgaaDoorW.PrintMore
attribute [local go_sem] max2_int min2_int max_two min_two max_three min_three max_four min_four   -- for this text's walks alone
set_option linter.unusedVariables false
set_option linter.unusedSimpArgs false

/-! ### texts_Get: function 26 -/
mutual
def texts_Get.j0 : Nat → List Int → Int → Bool → Option (List ByteArray × Int)
  | 0, _, _, _ => none
  | k + 1, x0, x1, x22 => if x22 = true then (some (([] : List ByteArray), 1)) else ((num_NewReader.f x0).bind fun bt268 => ((texts_list.f k bt268.1 bt268.2.1 bt268.2.2.1 bt268.2.2.2 x1).bind fun bt273 => ((num_Reader_Fix.f k bt268.1 bt273.2.1 bt273.2.2.1 bt273.2.2.2 1).bind fun bt279 => ((texts_width.f (bt273.1.length : Int)).bind fun t283 => (if (wrap64 (bt279.1)) = t283 then (texts_Get.j1 k x1 bt273.1 (wrap64 (bt279.1)) bt268.1 bt279.2.1 bt279.2.2.1 bt279.2.2.2) else ((num_Reader_Fail.f bt268.1 bt279.2.1 bt279.2.2.1 bt279.2.2.2 4).bind fun bt284 => (texts_Get.j1 k x1 bt273.1 (wrap64 (bt279.1)) bt268.1 bt284.1 bt284.2.1 bt284.2.2)))))))
def texts_Get.j1 : Nat → Int → List ByteArray → Int → List Int → Int → Int → Int → Option (List ByteArray × Int)
  | 0, _, _, _, _, _, _, _ => none
  | k + 1, x1, x7, x8, x273000, x273001, x273002, x273003 => (num_Reader_Err.f x273000 x273001 x273002 x273003).bind fun bt287 => (if bt287.1 = 0 then ((num_Reader_Left.f x273000 bt287.2.2.1 bt287.2.2.2.1 bt287.2.2.2.2).bind fun bt292 => ((num_Reader_Take.f x273000 bt292.2.1 bt292.2.2.1 bt292.2.2.2 bt292.1).bind fun bt296 => ((bits_Unpack.f k bt296.1 x1 x8).bind fun bt302 => (if bt302.2 = 0 then (if 0 ≤ (x7.length : Int) then (if ((x7.length : Int) : Int).toNat ≤ 281474976710656 then (texts_Get.l0 k x7 (List.replicate ((x7.length : Int) : Int).toNat false) ([] : List ByteArray) bt302.1 (bt302.1.length : Int) 0) else (none)) else (none)) else (some (([] : List ByteArray), bt302.2)))))) else (some (([] : List ByteArray), bt287.1)))
def texts_Get.l0 : Nat → List ByteArray → List Bool → List ByteArray → List Int → Int → Int → Option (List ByteArray × Int)
  | 0, _, _, _, _, _, _ => none
  | k + 1, x7, x13, x14, x62, x63, x64 => if x64 < x63 then (if 0 ≤ x64 then (if x64 < (x62.length : Int) then (if (rd x62 x64) ≥ (IntKind.u64.wrap ((x7.length : Int))) then (some (([] : List ByteArray), 5)) else (if 0 ≤ (rd x62 x64) then (if (rd x62 x64) < (x13.length : Int) then (if (rd x62 x64) < (x7.length : Int) then (if x14.length < 8796093022208 then (texts_Get.l0 k x7 (x13.set ((rd x62 x64) : Int).toNat true) (x14 ++ [rdOf ByteArray.empty x7 (rd x62 x64)]) x62 x63 (wrap64 (x64 + 1))) else (none)) else (none)) else (none)) else (none))) else (none)) else (none)) else ((slices_Contains_bool_bool.f k x13 false).bind fun t315 => (if t315 = true then (some (([] : List ByteArray), 4)) else (some (x14, 0))))
end
def texts_Get.f (k : Nat) (l0 : List Int) (a1 : Int) : Option (List ByteArray × Int) := if a1 < 0 then (texts_Get.j0 k l0 a1 true) else (texts_Get.j0 k l0 a1 (decide (a1 > 65536)))
set_option maxHeartbeats 8000000 in
set_option maxRecDepth 100000 in
theorem texts_Get.calls (k : Nat) (A0 : Option Addr) (c0 : Nat) (l0 : List Int) (a1 : Int) (r1 : List ByteArray) (r2 : Int) (w : World) (hr0 : Kd.C (Kd.int .u8) w A0 l0.length l0) (hc0 : l0.length ≤ c0) (hG : HG w) (h : texts_Get.f k l0 a1 = some (r1, r2)) :
    Calls Tryd.prog 26 #[.slice A0 l0.length c0, .int .i64 a1] w fun e w' => ∃ v0_ : Value, e = .returned (.tuple #[v0_, .int .i64 r2]) ∧ Kd.R Kd.string 9 w' w.heap.size (fun _ => True) v0_ r1 ∧ Below w.heap.size w w' := by
  have HR0 := Aside0.mk hr0
  have HC0 := Aside0.mk hc0
  clear hr0 hc0
  have HB := Aside0.mk (Below.refl w.heap.size w)
  have H : (if a1 < 0 then (texts_Get.j0 k l0 a1 true) else (texts_Get.j0 k l0 a1 (decide (a1 > 65536)))) = some (r1, r2) := h
  clear h
  have HC3 := Aside0.mk H
  clear H
  go_enter Tryd.func26, Tryd.ntmps26
  go_upto_region 1 with (fail)
  go_cut [22] (fun v22 wc => ∃ (kq : Nat) (x22_2 : Bool), v22 = .bool x22_2 ∧ Aside0 (texts_Get.j0 kq l0 a1 x22_2 = some (r1, r2)) ∧ Aside0 (kq ≤ k) ∧ Aside0 (Below w.heap.size w wc))
  case first =>
    have H := HC3.out
    clear HC3
    by_cases c4 : a1 < 0
    · rw [if_pos c4] at H
      have c4b0 : decide (a1 < 0) = true := decide_eq_true c4
      clear c4
      (first | rw [c4b0] | (simp only [i64_w, i32_w]; rw [c4b0]) | skip)
      have H' := Aside0.mk H
      clear H
      go_wp2
      go_meet
      case rel => exact ⟨_, (true), (by first | rfl | (simp; done) | (simp [*]; done)), H', ⟨by first | omega | exact Nat.le_refl _⟩, ⟨by repeat (first | (with_reducible first | exact HB.out | apply below_alloc | apply pw_below_drewN | apply below_drew1) | exact HB.out)⟩⟩
    · rw [if_neg c4] at H
      have c4b0 : decide (a1 < 0) = false := decide_eq_false c4
      clear c4
      (first | rw [c4b0] | (simp only [i64_w, i32_w]; rw [c4b0]) | skip)
      have H' := Aside0.mk H
      clear H
      go_wp2
      go_meet
      case rel => exact ⟨_, (decide (a1 > 65536)), (by first | rfl | (simp; done) | (simp [*]; done)), H', ⟨by first | omega | exact Nat.le_refl _⟩, ⟨by repeat (first | (with_reducible first | exact HB.out | apply below_alloc | apply pw_below_drewN | apply below_drew1) | exact HB.out)⟩⟩
  case rest =>
    clear HC3
    try clear c2
    try clear p2
    try clear c4
    try clear c4b0
    obtain ⟨kq, x22_2, rfl, HA, HJ2, HB⟩ := hcut
    cases kq with
    | zero => exact absurd HA.out (by simp [texts_Get.j0])
    | succ kj2 =>
      have H := HA.out
      clear HA
      simp only [texts_Get.j0] at H
      by_cases c5 : x22_2 = true
      · subst c5
        have H1 : (some (([] : List ByteArray), 1)) = some (r1, r2) := by rw [if_pos rfl] at H; exact H
        clear H
        have H := H1
        clear H1
        simp only [Option.some.injEq, Prod.mk.injEq] at H
        obtain ⟨rfl, rfl⟩ := H
        go_wp2
        go_ret2
        exact ⟨_, by first | rfl | (simp [errW_none, errW_some] <;> rfl) | (simp [*, errW_none, errW_some] <;> rfl), by first | exact Kd.R_nil _ _ _ _ _ | exact Kd.N_nil _ _ _ _ _ | exact Kd.V_nil _ _ _ _ _ | exact Kd.Q_nil _ _ _ _ _ | exact Kd.S_nil _ _ _ _ _, by repeat (first | (with_reducible first | exact HB.out | apply below_alloc | apply pw_below_drewN | apply below_drew1) | exact HB.out)⟩
      · replace c5 := Bool.eq_false_iff.mpr c5
        subst c5
        have H1 : ((num_NewReader.f l0).bind fun bt268 => ((texts_list.f kj2 bt268.1 bt268.2.1 bt268.2.2.1 bt268.2.2.2 a1).bind fun bt273 => ((num_Reader_Fix.f kj2 bt268.1 bt273.2.1 bt273.2.2.1 bt273.2.2.2 1).bind fun bt279 => ((texts_width.f (bt273.1.length : Int)).bind fun t283 => (if (wrap64 (bt279.1)) = t283 then (texts_Get.j1 kj2 a1 bt273.1 (wrap64 (bt279.1)) bt268.1 bt279.2.1 bt279.2.2.1 bt279.2.2.2) else ((num_Reader_Fail.f bt268.1 bt279.2.1 bt279.2.2.1 bt279.2.2.2 4).bind fun bt284 => (texts_Get.j1 kj2 a1 bt273.1 (wrap64 (bt279.1)) bt268.1 bt284.1 bt284.2.1 bt284.2.2))))))) = some (r1, r2) := by rw [if_neg (show ¬ (false = true) by decide)] at H; exact H
        clear H
        have H := H1
        clear H1
        replace H := Option.bind_eq_some_iff.mp H
        obtain ⟨⟨t268, t269, t270, t271⟩, A60, H⟩ := H
        replace H : ((texts_list.f kj2 t268 t269 t270 t271 a1).bind fun bt273 => ((num_Reader_Fix.f kj2 t268 bt273.2.1 bt273.2.2.1 bt273.2.2.2 1).bind fun bt279 => ((texts_width.f (bt273.1.length : Int)).bind fun t283 => (if (wrap64 (bt279.1)) = t283 then (texts_Get.j1 kj2 a1 bt273.1 (wrap64 (bt279.1)) t268 bt279.2.1 bt279.2.2.1 bt279.2.2.2) else ((num_Reader_Fail.f t268 bt279.2.1 bt279.2.2.1 bt279.2.2.2 4).bind fun bt284 => (texts_Get.j1 kj2 a1 bt273.1 (wrap64 (bt279.1)) t268 bt284.1 bt284.2.1 bt284.2.2)))))) = some (r1, r2) := H
        have A6 := Aside0.mk A60
        clear A60
        replace H := Option.bind_eq_some_iff.mp H
        obtain ⟨⟨t273, t276, t277, t278⟩, A70, H⟩ := H
        replace H : ((num_Reader_Fix.f kj2 t268 t276 t277 t278 1).bind fun bt279 => ((texts_width.f (t273.length : Int)).bind fun t283 => (if (wrap64 (bt279.1)) = t283 then (texts_Get.j1 kj2 a1 t273 (wrap64 (bt279.1)) t268 bt279.2.1 bt279.2.2.1 bt279.2.2.2) else ((num_Reader_Fail.f t268 bt279.2.1 bt279.2.2.1 bt279.2.2.2 4).bind fun bt284 => (texts_Get.j1 kj2 a1 t273 (wrap64 (bt279.1)) t268 bt284.1 bt284.2.1 bt284.2.2))))) = some (r1, r2) := H
        have A7 := Aside0.mk A70
        clear A70
        replace H := Option.bind_eq_some_iff.mp H
        obtain ⟨⟨t279, t280, t281, t282⟩, A80, H⟩ := H
        replace H : ((texts_width.f (t273.length : Int)).bind fun t283 => (if (wrap64 (t279)) = t283 then (texts_Get.j1 kj2 a1 t273 (wrap64 (t279)) t268 t280 t281 t282) else ((num_Reader_Fail.f t268 t280 t281 t282 4).bind fun bt284 => (texts_Get.j1 kj2 a1 t273 (wrap64 (t279)) t268 bt284.1 bt284.2.1 bt284.2.2)))) = some (r1, r2) := H
        have A8 := Aside0.mk A80
        clear A80
        replace H := Option.bind_eq_some_iff.mp H
        obtain ⟨t283, A90, H⟩ := H
        replace H : (if (wrap64 (t279)) = t283 then (texts_Get.j1 kj2 a1 t273 (wrap64 (t279)) t268 t280 t281 t282) else ((num_Reader_Fail.f t268 t280 t281 t282 4).bind fun bt284 => (texts_Get.j1 kj2 a1 t273 (wrap64 (t279)) t268 bt284.1 bt284.2.1 bt284.2.2))) = some (r1, r2) := H
        have A9 := Aside0.mk A90
        clear A90
        have HC10 := Aside0.mk H
        clear H
        go_upto_if 35 with (first | ((with_reducible refine gate_callee (f := 34) rfl ?_); refine goesL_ (some 24) rfl rfl Tryd.func34 (by kernel_rfl) rfl #[.slice A0 l0.length c0] rfl (by (try simp only [List.map_toArray, List.map_cons, List.map_nil]); first | done | rfl | (simp only [List.length_drop, List.length_take]; rfl)) ?_; (with_reducible refine (num_NewReader.calls _ _ l0 t268 t269 t270 t271 w _ ?side1 ?side2 ?side3 hG A6.out).mono ?_); (case side1 => repeat (first | (with_reducible first | exact HB.out | apply below_alloc | apply pw_below_drewN | apply below_drew1) | exact HB.out)); (case side2 => repeat (first | exact (Kd.C_below HR0.out HB.out) | (with_reducible refine Kd.C_alloc ?_ _) | (with_reducible refine Kd.C_drewN ?_ _) | (with_reducible refine Kd.C_drew ?_))); (case side3 => exact HC0.out); rintro e w11 ⟨g272, rfl, hi, hb, hb2⟩; refine ⟨_, rfl, ?_⟩; have n0_ := Aside0.mk (hb); have n1_ := Aside0.mk (hi); clear HB; have HB := n0_; have HI272 := n1_; clear n0_ n1_; (try clear hb); (try clear hb2); (try clear hk); (try clear hi)) | ((with_reducible refine gate_callee (f := 63) rfl ?_); refine goesL_ (some 27) rfl rfl Tryd.func63 (by kernel_rfl) rfl #[.pointer (some ⟨g272, 0, none⟩), .int .i64 a1] rfl (by (try simp only [List.map_toArray, List.map_cons, List.map_nil]); first | done | rfl | (simp only [List.length_drop, List.length_take]; rfl)) ?_; (with_reducible refine (texts_list.calls kj2 g272 t268 t269 t270 t271 a1 t273 t276 t277 t278 w _ ?side1 ?side2 A7.out).mono ?_); (case side1 => repeat (first | (with_reducible first | exact HI272.out | apply IsS87.alloc | apply IsS87.drewN | apply IsS87.drew | apply IsS87.set_1 | apply IsS87.set_2 | apply IsS87.set_3) | exact HI272.out)); (case side2 => repeat (first | (with_reducible first | exact HB.out | apply below_alloc | apply pw_below_drewN | apply below_drew1 | refine below_set ?_ (IsS87.ge HI272.out)) | exact HB.out)); rintro e w12 ⟨v274, rfl, ho0, hi, hb, hk⟩; refine ⟨_, rfl, ?_⟩; have n0_ := Aside0.mk (Kd.R_lower ho0 (below_size (by repeat (first | (with_reducible first | exact HB.out | apply below_alloc | apply pw_below_drewN | apply below_drew1 | refine below_set ?_ (IsS87.ge HI272.out)) | exact HB.out)))); have n1_ := Aside0.mk (hb); have n2_ := Aside0.mk (hi); clear HB; clear HI272; have HO275 := n0_; have HB := n1_; have HI272 := n2_; clear n0_ n1_ n2_; (try clear hb); (try clear hb2); (try clear hk); (try clear hi); (try clear ho0)) | ((with_reducible refine gate_callee (f := 37) rfl ?_); refine goesL_ (some 29) rfl rfl Tryd.func37 (by kernel_rfl) rfl #[.pointer (some ⟨g272, 0, none⟩), .int .i64 1] rfl (by (try simp only [List.map_toArray, List.map_cons, List.map_nil]); first | done | rfl | (simp only [List.length_drop, List.length_take]; rfl)) ?_; (with_reducible refine (num_Reader_Fix.calls kj2 g272 t268 t276 t277 t278 1 t279 t280 t281 t282 w _ ?side1 ?side2 A8.out).mono ?_); (case side1 => repeat (first | (with_reducible first | exact HI272.out | apply IsS87.alloc | apply IsS87.drewN | apply IsS87.drew | apply IsS87.set_1 | apply IsS87.set_2 | apply IsS87.set_3) | exact HI272.out)); (case side2 => repeat (first | (with_reducible first | exact HB.out | apply below_alloc | apply pw_below_drewN | apply below_drew1 | refine below_set ?_ (IsS87.ge HI272.out)) | exact HB.out)); rintro e w13 ⟨rfl, hi, hb, hk⟩; refine ⟨_, rfl, ?_⟩; have n0_ := Aside0.mk (Kd.R_mono (Kd.R_keep (IsS87.apart (show IsS87 w _ g272 t268 t276 t277 t278 from by repeat (first | (with_reducible first | exact HI272.out | apply IsS87.alloc | apply IsS87.drewN | apply IsS87.drew | apply IsS87.set_1 | apply IsS87.set_2 | apply IsS87.set_3) | exact HI272.out)) (by (with_reducible repeat (first | apply Kd.R_alloc | apply Kd.R_drewN | apply Kd.R_drew)); exact HO275.out) (by decide)) hk (fun _ h => h.2)) (fun _ h => h.1)); have n1_ := Aside0.mk (hb); have n2_ := Aside0.mk (hi); clear HO275; clear HB; clear HI272; have HO275 := n0_; have HB := n1_; have HI272 := n2_; clear n0_ n1_ n2_; (try clear hb); (try clear hb2); (try clear hk); (try clear hi); obtain ⟨Ao14, co14, eo14⟩ := Kd.R_slice HO275.out; subst eo14) | ((with_reducible refine gate_callee (f := 64) rfl ?_); refine goesL_ (some 34) rfl rfl Tryd.func64 (by kernel_rfl) rfl #[.int .i64 (t273.length : Int)] rfl (by (try simp only [List.map_toArray, List.map_cons, List.map_nil]); first | done | rfl | (simp only [List.length_drop, List.length_take]; rfl)) ?_; (with_reducible refine (texts_width.calls (t273.length : Int) t283 _ A9.out).mono ?_); rintro e w15 ⟨rfl, hb⟩; refine ⟨_, rfl, ?_⟩; have n0_ := Aside0.mk (Kd.R_below (by (with_reducible repeat (first | apply Kd.R_alloc | apply Kd.R_drewN | apply Kd.R_drew)); exact HO275.out) hb); have n1_ := Aside0.mk (IsS87.below (by repeat (first | (with_reducible first | exact HI272.out | apply IsS87.alloc | apply IsS87.drewN | apply IsS87.drew | apply IsS87.set_1 | apply IsS87.set_2 | apply IsS87.set_3) | exact HI272.out)) hb); have n2_ := Aside0.mk (below_step (by repeat (first | (with_reducible first | exact HB.out | apply below_alloc | apply pw_below_drewN | apply below_drew1 | refine below_set ?_ (IsS87.ge HI272.out)) | exact HB.out)) hb); clear HO275; clear HI272; clear HB; have HO275 := n0_; have HI272 := n1_; have HB := n2_; clear n0_ n1_ n2_; (try clear hb); (try clear hb2); (try clear hk); (try clear hi)))
        (try simp only [Act.put, List.setIfInBounds_toArray, List.set_cons_zero, List.set_cons_succ])
        go_cut [] (fun wc => ∃ (kq : Nat) (x273001_9 : Int) (x273002_9 : Int) (x273003_9 : Int), Aside0 (texts_Get.j1 kq a1 t273 (wrap64 (t279)) t268 x273001_9 x273002_9 x273003_9 = some (r1, r2)) ∧ Aside0 (kq ≤ kj2) ∧ Aside0 (Kd.R Kd.string 9 wc w.heap.size (fun _ => True) (.slice Ao14 t273.length co14) t273) ∧ Aside0 (IsS87 w wc g272 t268 x273001_9 x273002_9 x273003_9) ∧ Aside0 (Below w.heap.size w wc))
        case first =>
          have H := HC10.out
          clear HC10
          by_cases c16 : (wrap64 (t279)) = t283
          · rw [if_pos c16] at H
            have c16b0 : ((wrap64 (t279)) == t283) = true := beq_iff_eq.mpr c16
            have c16b1 : ((wrap64 (t279)) != t283) = false := bne_eq_false_iff_eq.mpr c16
            clear c16
            (first | rw [c16b0] | (simp only [i64_w, i32_w]; rw [c16b0]) | skip)
            have H' := Aside0.mk H
            clear H
            go_wp2
            go_meet
            case rel => exact ⟨_, (t280), (t281), (t282), H', ⟨by have := HJ2.out; first | omega | exact Nat.le_refl _⟩, ⟨by (with_reducible repeat (first | apply Kd.R_alloc | apply Kd.R_drewN | apply Kd.R_drew)); exact HO275.out⟩, ⟨by repeat (first | (with_reducible first | exact HI272.out | apply IsS87.alloc | apply IsS87.drewN | apply IsS87.drew | apply IsS87.set_1 | apply IsS87.set_2 | apply IsS87.set_3) | exact HI272.out)⟩, ⟨by repeat (first | (with_reducible first | exact HB.out | apply below_alloc | apply pw_below_drewN | apply below_drew1 | refine below_set ?_ (IsS87.ge HI272.out)) | exact HB.out)⟩⟩
          · rw [if_neg c16] at H
            have c16b0 : ((wrap64 (t279)) == t283) = false := beq_eq_false_iff_ne.mpr c16
            have c16b1 : ((wrap64 (t279)) != t283) = true := bne_iff_ne.mpr c16
            (first | rw [c16b0] | (simp only [i64_w, i32_w]; rw [c16b0]) | skip)
            replace H := Option.bind_eq_some_iff.mp H
            obtain ⟨⟨t284, t285, t286⟩, A170, H⟩ := H
            replace H : (texts_Get.j1 kj2 a1 t273 (wrap64 (t279)) t268 t284 t285 t286) = some (r1, r2) := H
            have A17 := Aside0.mk A170
            clear A170
            have H' := Aside0.mk H
            clear H
            go_wp2_with (first | ((with_reducible refine gate_callee (f := 38) rfl ?_); refine goesL_ (some 37) rfl rfl Tryd.func38 (by kernel_rfl) rfl #[.pointer (some ⟨g272, 0, none⟩), .int .i64 4] rfl (by (try simp only [List.map_toArray, List.map_cons, List.map_nil]); first | done | rfl | (simp only [List.length_drop, List.length_take]; rfl)) ?_; (with_reducible refine (num_Reader_Fail.calls g272 t268 t280 t281 t282 4 t284 t285 t286 w _ ?side1 ?side2 A17.out).mono ?_); (case side1 => repeat (first | (with_reducible first | exact HI272.out | apply IsS87.alloc | apply IsS87.drewN | apply IsS87.drew | apply IsS87.set_1 | apply IsS87.set_2 | apply IsS87.set_3) | exact HI272.out)); (case side2 => repeat (first | (with_reducible first | exact HB.out | apply below_alloc | apply pw_below_drewN | apply below_drew1 | refine below_set ?_ (IsS87.ge HI272.out)) | exact HB.out)); rintro e w18 ⟨rfl, hi, hb, hk⟩; refine ⟨_, rfl, ?_⟩; have n0_ := Aside0.mk (Kd.R_mono (Kd.R_keep (IsS87.apart (show IsS87 w _ g272 t268 t280 t281 t282 from by repeat (first | (with_reducible first | exact HI272.out | apply IsS87.alloc | apply IsS87.drewN | apply IsS87.drew | apply IsS87.set_1 | apply IsS87.set_2 | apply IsS87.set_3) | exact HI272.out)) (by (with_reducible repeat (first | apply Kd.R_alloc | apply Kd.R_drewN | apply Kd.R_drew)); exact HO275.out) (by decide)) hk (fun _ h => h.2)) (fun _ h => h.1)); have n1_ := Aside0.mk (hb); have n2_ := Aside0.mk (hi); clear HO275; clear HB; clear HI272; have HO275 := n0_; have HB := n1_; have HI272 := n2_; clear n0_ n1_ n2_; (try clear hb); (try clear hb2); (try clear hk); (try clear hi)))
            go_meet
            case rel => exact ⟨_, (t284), (t285), (t286), H', ⟨by have := HJ2.out; first | omega | exact Nat.le_refl _⟩, ⟨by (with_reducible repeat (first | apply Kd.R_alloc | apply Kd.R_drewN | apply Kd.R_drew)); exact HO275.out⟩, ⟨by repeat (first | (with_reducible first | exact HI272.out | apply IsS87.alloc | apply IsS87.drewN | apply IsS87.drew | apply IsS87.set_1 | apply IsS87.set_2 | apply IsS87.set_3) | exact HI272.out)⟩, ⟨by repeat (first | (with_reducible first | exact HB.out | apply below_alloc | apply pw_below_drewN | apply below_drew1 | refine below_set ?_ (IsS87.ge HI272.out)) | exact HB.out)⟩⟩
        case rest =>
          clear HC10
          try clear c1
          try clear c2
          try clear p2
          try clear c3
          try clear c4
          try clear c4b0
          try clear c5
          try clear c6
          try clear p6
          try clear c16
          try clear c16b0
          try clear c16b1
          try clear p2
          obtain ⟨kq, x273001_9, x273002_9, x273003_9, HA, HJ9, HO_7, HI272, HB⟩ := hcut
          cases kq with
          | zero => exact absurd HA.out (by simp [texts_Get.j1])
          | succ kj9 =>
            have H := HA.out
            clear HA
            simp only [texts_Get.j1] at H
            replace H := Option.bind_eq_some_iff.mp H
            obtain ⟨⟨t287, t288, t289, t290, t291⟩, A190, H⟩ := H
            replace H : (if t287 = 0 then ((num_Reader_Left.f t268 t289 t290 t291).bind fun bt292 => ((num_Reader_Take.f t268 bt292.2.1 bt292.2.2.1 bt292.2.2.2 bt292.1).bind fun bt296 => ((bits_Unpack.f kj9 bt296.1 a1 (wrap64 (t279))).bind fun bt302 => (if bt302.2 = 0 then (if 0 ≤ (t273.length : Int) then (if ((t273.length : Int) : Int).toNat ≤ 281474976710656 then (texts_Get.l0 kj9 t273 (List.replicate ((t273.length : Int) : Int).toNat false) ([] : List ByteArray) bt302.1 (bt302.1.length : Int) 0) else (none)) else (none)) else (some (([] : List ByteArray), bt302.2)))))) else (some (([] : List ByteArray), t287))) = some (r1, r2) := H
            have A19 := Aside0.mk A190
            clear A190
            by_cases c20 : t287 = 0
            · rw [if_pos c20] at H
              have c20b0 : (t287 == 0) = true := beq_iff_eq.mpr c20
              have c20b1 : (t287 != 0) = false := bne_eq_false_iff_eq.mpr c20
              clear c20
              replace H := Option.bind_eq_some_iff.mp H
              obtain ⟨⟨t292, t293, t294, t295⟩, A210, H⟩ := H
              replace H : ((num_Reader_Take.f t268 t293 t294 t295 t292).bind fun bt296 => ((bits_Unpack.f kj9 bt296.1 a1 (wrap64 (t279))).bind fun bt302 => (if bt302.2 = 0 then (if 0 ≤ (t273.length : Int) then (if ((t273.length : Int) : Int).toNat ≤ 281474976710656 then (texts_Get.l0 kj9 t273 (List.replicate ((t273.length : Int) : Int).toNat false) ([] : List ByteArray) bt302.1 (bt302.1.length : Int) 0) else (none)) else (none)) else (some (([] : List ByteArray), bt302.2))))) = some (r1, r2) := H
              have A21 := Aside0.mk A210
              clear A210
              replace H := Option.bind_eq_some_iff.mp H
              obtain ⟨⟨t296, t299, t300, t301⟩, A220, H⟩ := H
              replace H : ((bits_Unpack.f kj9 t296 a1 (wrap64 (t279))).bind fun bt302 => (if bt302.2 = 0 then (if 0 ≤ (t273.length : Int) then (if ((t273.length : Int) : Int).toNat ≤ 281474976710656 then (texts_Get.l0 kj9 t273 (List.replicate ((t273.length : Int) : Int).toNat false) ([] : List ByteArray) bt302.1 (bt302.1.length : Int) 0) else (none)) else (none)) else (some (([] : List ByteArray), bt302.2)))) = some (r1, r2) := H
              have A22 := Aside0.mk A220
              clear A220
              replace H := Option.bind_eq_some_iff.mp H
              obtain ⟨⟨t302, t303⟩, A230, H⟩ := H
              replace H : (if t303 = 0 then (if 0 ≤ (t273.length : Int) then (if ((t273.length : Int) : Int).toNat ≤ 281474976710656 then (texts_Get.l0 kj9 t273 (List.replicate ((t273.length : Int) : Int).toNat false) ([] : List ByteArray) t302 (t302.length : Int) 0) else (none)) else (none)) else (some (([] : List ByteArray), t303))) = some (r1, r2) := H
              have A23 := Aside0.mk A230
              clear A230
              by_cases c24 : t303 = 0
              · rw [if_pos c24] at H
                have c24b0 : (t303 == 0) = true := beq_iff_eq.mpr c24
                have c24b1 : (t303 != 0) = false := bne_eq_false_iff_eq.mpr c24
                clear c24
                by_cases c25 : 0 ≤ (t273.length : Int)
                · rw [if_pos c25] at H
                  have c25b0 := eq_true c25
                  have c25b1 : decide (0 ≤ (t273.length : Int)) = true := decide_eq_true c25
                  clear c25
                  by_cases c26 : ((t273.length : Int) : Int).toNat ≤ 281474976710656
                  · rw [if_pos c26] at H
                    have c26b0 := eq_true c26
                    have c26b1 : decide (((t273.length : Int) : Int).toNat ≤ 281474976710656) = true := decide_eq_true c26
                    clear c26
                    obtain ⟨y306, hy306⟩ : ∃ y_ : List Bool, y_ = (List.replicate ((t273.length : Int) : Int).toNat false) := ⟨_, rfl⟩
                    replace H : (texts_Get.l0 kj9 t273 y306 ([] : List ByteArray) t302 (t302.length : Int) 0) = some (r1, r2) := by first | (rw [hy306]; with_reducible exact H) | (have H2_ := (Option.bind_some _ _).symm.trans H; rw [hy306]; with_reducible exact H2_) | (have H2_ := (Option.bind_some _ _).symm.trans H; with_reducible exact H2_) | with_reducible exact H | (rw [hy306]; exact H) | exact H
                    have Ny306 := Aside0.mk hy306
                    clear hy306
                    have H' := Aside0.mk H
                    clear H
                    go_wp2_with (first | ((with_reducible refine gate_callee (f := 39) rfl ?_); refine goesL_ (some 40) rfl rfl Tryd.func39 (by kernel_rfl) rfl #[.pointer (some ⟨g272, 0, none⟩)] rfl (by (try simp only [List.map_toArray, List.map_cons, List.map_nil]); first | done | rfl | (simp only [List.length_drop, List.length_take]; rfl)) ?_; (with_reducible refine (num_Reader_Err.calls g272 t268 x273001_9 x273002_9 x273003_9 t287 t288 t289 t290 t291 w _ ?side1 ?side2 A19.out).mono ?_); (case side1 => repeat (first | (with_reducible first | exact HI272.out | apply IsS87.alloc | apply IsS87.drewN | apply IsS87.drew | apply IsS87.set_1 | apply IsS87.set_2 | apply IsS87.set_3) | exact HI272.out)); (case side2 => repeat (first | (with_reducible first | exact HB.out | apply below_alloc | apply pw_below_drewN | apply below_drew1 | refine below_set ?_ (IsS87.ge HI272.out)) | exact HB.out)); rintro e w27 ⟨rfl, hi, hb, hk⟩; refine ⟨_, rfl, ?_⟩; have n0_ := Aside0.mk (Kd.R_mono (Kd.R_keep (IsS87.apart (show IsS87 w _ g272 t268 x273001_9 x273002_9 x273003_9 from by repeat (first | (with_reducible first | exact HI272.out | apply IsS87.alloc | apply IsS87.drewN | apply IsS87.drew | apply IsS87.set_1 | apply IsS87.set_2 | apply IsS87.set_3) | exact HI272.out)) (by (with_reducible repeat (first | apply Kd.R_alloc | apply Kd.R_drewN | apply Kd.R_drew)); exact HO_7.out) (by decide)) hk (fun _ h => h.2)) (fun _ h => h.1)); have n1_ := Aside0.mk (hb); have n2_ := Aside0.mk (hi); clear HO_7; clear HB; clear HI272; have HO_7 := n0_; have HB := n1_; have HI272 := n2_; clear n0_ n1_ n2_; (try clear hb); (try clear hb2); (try clear hk); (try clear hi)) | ((with_reducible refine gate_callee (f := 42) rfl ?_); refine goesL_ (some 49) rfl rfl Tryd.func42 (by kernel_rfl) rfl #[.pointer (some ⟨g272, 0, none⟩)] rfl (by (try simp only [List.map_toArray, List.map_cons, List.map_nil]); first | done | rfl | (simp only [List.length_drop, List.length_take]; rfl)) ?_; (with_reducible refine (num_Reader_Left.calls g272 t268 t289 t290 t291 t292 t293 t294 t295 w _ ?side1 ?side2 A21.out).mono ?_); (case side1 => repeat (first | (with_reducible first | exact HI272.out | apply IsS87.alloc | apply IsS87.drewN | apply IsS87.drew | apply IsS87.set_1 | apply IsS87.set_2 | apply IsS87.set_3) | exact HI272.out)); (case side2 => repeat (first | (with_reducible first | exact HB.out | apply below_alloc | apply pw_below_drewN | apply below_drew1 | refine below_set ?_ (IsS87.ge HI272.out)) | exact HB.out)); rintro e w28 ⟨rfl, hi, hb, hk⟩; refine ⟨_, rfl, ?_⟩; have n0_ := Aside0.mk (Kd.R_mono (Kd.R_keep (IsS87.apart (show IsS87 w _ g272 t268 t289 t290 t291 from by repeat (first | (with_reducible first | exact HI272.out | apply IsS87.alloc | apply IsS87.drewN | apply IsS87.drew | apply IsS87.set_1 | apply IsS87.set_2 | apply IsS87.set_3) | exact HI272.out)) (by (with_reducible repeat (first | apply Kd.R_alloc | apply Kd.R_drewN | apply Kd.R_drew)); exact HO_7.out) (by decide)) hk (fun _ h => h.2)) (fun _ h => h.1)); have n1_ := Aside0.mk (hb); have n2_ := Aside0.mk (hi); clear HO_7; clear HB; clear HI272; have HO_7 := n0_; have HB := n1_; have HI272 := n2_; clear n0_ n1_ n2_; (try clear hb); (try clear hb2); (try clear hk); (try clear hi)) | ((with_reducible refine gate_callee (f := 41) rfl ?_); refine goesL_ (some 50) rfl rfl Tryd.func41 (by kernel_rfl) rfl #[.pointer (some ⟨g272, 0, none⟩), .int .i64 t292] rfl (by (try simp only [List.map_toArray, List.map_cons, List.map_nil]); first | done | rfl | (simp only [List.length_drop, List.length_take]; rfl)) ?_; (with_reducible refine (num_Reader_Take.calls g272 t268 t293 t294 t295 t292 t296 t299 t300 t301 w _ ?side1 ?side2 A22.out).mono ?_); (case side1 => repeat (first | (with_reducible first | exact HI272.out | apply IsS87.alloc | apply IsS87.drewN | apply IsS87.drew | apply IsS87.set_1 | apply IsS87.set_2 | apply IsS87.set_3) | exact HI272.out)); (case side2 => repeat (first | (with_reducible first | exact HB.out | apply below_alloc | apply pw_below_drewN | apply below_drew1 | refine below_set ?_ (IsS87.ge HI272.out)) | exact HB.out)); rintro e w29 ⟨v297, rfl, ho0, hi, hb, hk⟩; refine ⟨_, rfl, ?_⟩; have n0_ := Aside0.mk (Kd.R_mono (Kd.R_keep (IsS87.apart (show IsS87 w _ g272 t268 t293 t294 t295 from by repeat (first | (with_reducible first | exact HI272.out | apply IsS87.alloc | apply IsS87.drewN | apply IsS87.drew | apply IsS87.set_1 | apply IsS87.set_2 | apply IsS87.set_3) | exact HI272.out)) (by (with_reducible repeat (first | apply Kd.R_alloc | apply Kd.R_drewN | apply Kd.R_drew)); exact HO_7.out) (by decide)) hk (fun _ h => h.2)) (fun _ h => h.1)); have n1_ := Aside0.mk (Kd.R_lower ho0 (below_size (by repeat (first | (with_reducible first | exact HB.out | apply below_alloc | apply pw_below_drewN | apply below_drew1 | refine below_set ?_ (IsS87.ge HI272.out)) | exact HB.out)))); have n2_ := Aside0.mk (hb); have n3_ := Aside0.mk (hi); clear HO_7; clear HB; clear HI272; have HO_7 := n0_; have HO298 := n1_; have HB := n2_; have HI272 := n3_; clear n0_ n1_ n2_ n3_; (try clear hb); (try clear hb2); (try clear hk); (try clear hi); (try clear ho0); obtain ⟨Ao30, co30, eo30⟩ := Kd.R_slice HO298.out; subst eo30) | ((with_reducible refine gate_callee (f := 40) rfl ?_); refine goesL_ (some 53) rfl rfl Tryd.func40 (by kernel_rfl) rfl #[.slice Ao30 t296.length co30, .int .i64 a1, .int .i64 (wrap64 (t279))] rfl (by (try simp only [List.map_toArray, List.map_cons, List.map_nil]); first | done | rfl | (simp only [List.length_drop, List.length_take]; rfl)) ?_; (with_reducible refine (bits_Unpack.calls kj9 _ _ t296 a1 (wrap64 (t279)) t302 t303 _ ?side1 ?side2 A23.out).mono ?_); (case side1 => repeat (first | exact (Kd.R_reads' HO298.out).2.2 | (with_reducible refine Kd.C_alloc ?_ _) | (with_reducible refine Kd.C_drewN ?_ _) | (with_reducible refine Kd.C_drew ?_))); (case side2 => exact (Kd.R_reads' HO298.out).2.1); rintro e w31 ⟨v304, rfl, ho0, hb⟩; refine ⟨_, rfl, ?_⟩; have n0_ := Aside0.mk (Kd.R_below (by (with_reducible repeat (first | apply Kd.R_alloc | apply Kd.R_drewN | apply Kd.R_drew)); exact HO_7.out) hb); have n1_ := Aside0.mk (Kd.R_below (by (with_reducible repeat (first | apply Kd.R_alloc | apply Kd.R_drewN | apply Kd.R_drew)); exact HO298.out) hb); have n2_ := Aside0.mk (Kd.R_lower ho0 (below_size (by repeat (first | (with_reducible first | exact HB.out | apply below_alloc | apply pw_below_drewN | apply below_drew1 | refine below_set ?_ (IsS87.ge HI272.out)) | exact HB.out)))); have n3_ := Aside0.mk (IsS87.below (by repeat (first | (with_reducible first | exact HI272.out | apply IsS87.alloc | apply IsS87.drewN | apply IsS87.drew | apply IsS87.set_1 | apply IsS87.set_2 | apply IsS87.set_3) | exact HI272.out)) hb); have n4_ := Aside0.mk (below_step (by repeat (first | (with_reducible first | exact HB.out | apply below_alloc | apply pw_below_drewN | apply below_drew1 | refine below_set ?_ (IsS87.ge HI272.out)) | exact HB.out)) hb); clear HO_7; clear HO298; clear HI272; clear HB; have HO_7 := n0_; have HO298 := n1_; have HO305 := n2_; have HI272 := n3_; have HB := n4_; clear n0_ n1_ n2_ n3_ n4_; (try clear hb); (try clear hb2); (try clear hk); (try clear hi); (try clear ho0)) | ((with_reducible refine gate_dst (N := 61) rfl ?_); refine Kd.R_make Kd.bool _ 4 rfl (N := 61) rfl 72 _ _ rfl (t273.length : Int) rfl rfl Tryd.underlying72 (.bool false) 1 info4 rfl (by decide) (by omega) false (ok := fun _ => True) (okp := fun _ => True) rfl (fun _ hk => hk) trivial (of_decide_eq_true (by first | (with_reducible assumption) | assumption)) (Nat.le_trans (Nat.mul_le_mul_right _ (of_decide_eq_true (by first | (with_reducible assumption) | assumption) : (t273.length : Int).toNat ≤ 281474976710656)) (by omega)) (Below.refl _ _) (Nat.le_refl _) ?_; intro v307 w32 ho33 hb hg_ hnew_; clear hg_ hnew_; (first | rw [← Ny306.out] at ho33 | (simp only [Int.reduceToNat] at ho33; rw [← Ny306.out] at ho33)); have n0_ := Aside0.mk (Kd.R_below (by (with_reducible repeat (first | apply Kd.R_alloc | apply Kd.R_drewN | apply Kd.R_drew)); exact HO_7.out) hb); have n1_ := Aside0.mk (Kd.R_below (by (with_reducible repeat (first | apply Kd.R_alloc | apply Kd.R_drewN | apply Kd.R_drew)); exact HO298.out) hb); have n2_ := Aside0.mk (Kd.R_below (by (with_reducible repeat (first | apply Kd.R_alloc | apply Kd.R_drewN | apply Kd.R_drew)); exact HO305.out) hb); have n3_ := Aside0.mk (Kd.R_lower ho33 (below_size (by repeat (first | (with_reducible first | exact HB.out | apply below_alloc | apply pw_below_drewN | apply below_drew1 | refine below_set ?_ (IsS87.ge HI272.out)) | exact HB.out)))); have n4_ := Aside0.mk (IsS87.below (by repeat (first | (with_reducible first | exact HI272.out | apply IsS87.alloc | apply IsS87.drewN | apply IsS87.drew | apply IsS87.set_1 | apply IsS87.set_2 | apply IsS87.set_3) | exact HI272.out)) hb); have n5_ := Aside0.mk (below_step (by repeat (first | (with_reducible first | exact HB.out | apply below_alloc | apply pw_below_drewN | apply below_drew1 | refine below_set ?_ (IsS87.ge HI272.out)) | exact HB.out)) hb); clear HO_7; clear HO298; clear HO305; clear HI272; clear HB; have HO_7 := n0_; have HO298 := n1_; have HO305 := n2_; have HO308 := n3_; have HI272 := n4_; have HB := n5_; clear n0_ n1_ n2_ n3_ n4_ n5_; clear hb ho33; obtain ⟨Ao34, co34, eo34⟩ := Kd.R_slice HO305.out; subst eo34))
                    go_loopg [14, 64] kj9 (fun kq v14 v64 w' => ∃ (x13_3 : List Bool) (x14_3 : List ByteArray) (x64_3 : Int), v64 = .int .i64 x64_3 ∧ Aside0 (texts_Get.l0 kq t273 x13_3 x14_3 t302 (t302.length : Int) x64_3 = some (r1, r2)) ∧ Aside0 (kq ≤ kj9) ∧ Aside0 (Kd.R Kd.string 9 w' w.heap.size (fun k_ => some k_ ≠ (v14 : Value).ownBlock) (.slice Ao14 t273.length co14) t273) ∧ Aside0 (Kd.R Kd.bool 4 w' w.heap.size (fun _ => True) v307 x13_3) ∧ Aside0 (Kd.R Kd.string 9 w' w.heap.size (fun k_ => some k_ ≠ ((.slice Ao14 t273.length co14) : Value).ownBlock) v14 x14_3) ∧ Aside0 (Kd.R (Kd.int .u64) 45 w' w.heap.size (fun _ => True) (.slice Ao34 t302.length co34) t302) ∧ Aside0 (Below w.heap.size w w'))
                    case atStart => exact ⟨(y306), (([] : List ByteArray)), (0), (by first | rfl | (simp; done) | (simp [*]; done)), H', ⟨Nat.le_refl _⟩, ⟨by (with_reducible repeat (first | apply Kd.R_alloc | apply Kd.R_drewN | apply Kd.R_drew)); exact Kd.R_mono HO_7.out (fun _ hk => (by simp [Value.ownBlock]))⟩, ⟨by (with_reducible repeat (first | apply Kd.R_alloc | apply Kd.R_drewN | apply Kd.R_drew)); exact HO308.out⟩, ⟨by first | exact Kd.R_nil _ _ _ _ _ | exact Kd.N_nil _ _ _ _ _ | exact Kd.V_nil _ _ _ _ _ | exact Kd.Q_nil _ _ _ _ _ | exact Kd.S_nil _ _ _ _ _⟩, ⟨by (with_reducible repeat (first | apply Kd.R_alloc | apply Kd.R_drewN | apply Kd.R_drew)); exact HO305.out⟩, ⟨by repeat (first | (with_reducible first | exact HB.out | apply below_alloc | apply pw_below_drewN | apply below_drew1 | refine below_set ?_ (IsS87.ge HI272.out)) | exact HB.out)⟩⟩
                    case round =>
                      clear H'
                      try clear c1
                      try clear c2
                      try clear p2
                      try clear c3
                      try clear c4
                      try clear c4b0
                      try clear c5
                      try clear c6
                      try clear p6
                      try clear c16
                      try clear c16b0
                      try clear c16b1
                      try clear c20
                      try clear c20b0
                      try clear c20b1
                      try clear c24
                      try clear c24b0
                      try clear c24b1
                      try clear c25
                      try clear c25b0
                      try clear c25b1
                      try clear c26
                      try clear c26b0
                      try clear c26b1
                      try clear c34
                      try clear p2
                      try clear p6
                      obtain ⟨x13_3, x14_3, x64_3, rfl, HA, HK3, HO_7, HO_13, HO_14, HO_62, HB⟩ := hrel
                      cases gk with
                      | zero => exact absurd HA.out (by simp [texts_Get.l0])
                      | succ k3 =>
                        have H := HA.out
                        clear HA
                        simp only [texts_Get.l0] at H
                        by_cases c35 : x64_3 < (t302.length : Int)
                        · rw [if_pos c35] at H
                          have c35b0 : decide (x64_3 < (t302.length : Int)) = true := decide_eq_true c35
                          clear c35
                          by_cases c36 : 0 ≤ x64_3
                          · rw [if_pos c36] at H
                            have c36b0 : decide (0 ≤ x64_3) = true := decide_eq_true c36
                            clear c36
                            by_cases c37 : x64_3 < (t302.length : Int)
                            · rw [if_pos c37] at H
                              have c37b0 : decide (x64_3 < (t302.length : Int)) = true := decide_eq_true c37
                              clear c37
                              by_cases c38 : (rd t302 x64_3) ≥ (IntKind.u64.wrap ((t273.length : Int)))
                              · rw [if_pos c38] at H
                                have c38b0 : decide ((IntKind.u64.wrap ((t273.length : Int))) ≤ (rd t302 x64_3)) = true := decide_eq_true c38
                                clear c38
                                simp only [Option.some.injEq, Prod.mk.injEq] at H
                                obtain ⟨rfl, rfl⟩ := H
                                have p309 : 0 ≤ (x64_3 : Int) := of_decide_eq_true (by first | (with_reducible assumption) | assumption)
                                have q309 : x64_3 < (t302.length : Int) := of_decide_eq_true (by first | (with_reducible assumption) | assumption)
                                obtain ⟨ad309, e309, hx309_0⟩ := Kd.at_int (Kd.R_reads' HO_62.out).2.2 x64_3 p309 q309
                                cases e309
                                replace p309 := eq_true p309
                                replace q309 := eq_true q309
                                go_wp2
                                go_ret2
                                exact ⟨_, by first | rfl | (simp [errW_none, errW_some] <;> rfl) | (simp [*, errW_none, errW_some] <;> rfl), by first | exact Kd.R_nil _ _ _ _ _ | exact Kd.N_nil _ _ _ _ _ | exact Kd.V_nil _ _ _ _ _ | exact Kd.Q_nil _ _ _ _ _ | exact Kd.S_nil _ _ _ _ _, by repeat (first | (with_reducible first | exact HB.out | apply below_alloc | apply pw_below_drewN | apply below_drew1) | exact HB.out)⟩
                              · rw [if_neg c38] at H
                                have c38b0 : decide ((IntKind.u64.wrap ((t273.length : Int))) ≤ (rd t302 x64_3)) = false := decide_eq_false c38
                                clear c38
                                by_cases c39 : 0 ≤ (rd t302 x64_3)
                                · rw [if_pos c39] at H
                                  have c39b0 : decide (0 ≤ (rd t302 x64_3)) = true := decide_eq_true c39
                                  clear c39
                                  by_cases c40 : (rd t302 x64_3) < (x13_3.length : Int)
                                  · rw [if_pos c40] at H
                                    have c40b0 : decide ((rd t302 x64_3) < (x13_3.length : Int)) = true := decide_eq_true c40
                                    clear c40
                                    obtain ⟨y310, hy310⟩ : ∃ y_ : List Bool, y_ = (x13_3.set ((rd t302 x64_3) : Int).toNat true) := ⟨_, rfl⟩
                                    replace H : (if (rd t302 x64_3) < (t273.length : Int) then (if x14_3.length < 8796093022208 then (texts_Get.l0 k3 t273 y310 (x14_3 ++ [rdOf ByteArray.empty t273 (rd t302 x64_3)]) t302 (t302.length : Int) (wrap64 (x64_3 + 1))) else (none)) else (none)) = some (r1, r2) := by first | (rw [hy310]; with_reducible exact H) | (have H2_ := (Option.bind_some _ _).symm.trans H; rw [hy310]; with_reducible exact H2_) | (have H2_ := (Option.bind_some _ _).symm.trans H; with_reducible exact H2_) | with_reducible exact H | (rw [hy310]; exact H) | exact H
                                    have Ny310 := Aside0.mk hy310
                                    clear hy310
                                    by_cases c42 : (rd t302 x64_3) < (t273.length : Int)
                                    · rw [if_pos c42] at H
                                      have c42b0 : decide ((rd t302 x64_3) < (t273.length : Int)) = true := decide_eq_true c42
                                      clear c42
                                      by_cases c43 : x14_3.length < 8796093022208
                                      · rw [if_pos c43] at H
                                        have LMc43 := Aside0.mk c43
                                        clear c43
                                        obtain ⟨y312, hy312⟩ : ∃ y_ : List ByteArray, y_ = (x14_3 ++ [rdOf ByteArray.empty t273 (rd t302 x64_3)]) := ⟨_, rfl⟩
                                        replace H : (texts_Get.l0 k3 t273 y310 y312 t302 (t302.length : Int) (wrap64 (x64_3 + 1))) = some (r1, r2) := by first | (rw [hy312]; with_reducible exact H) | (have H2_ := (Option.bind_some _ _).symm.trans H; rw [hy312]; with_reducible exact H2_) | (have H2_ := (Option.bind_some _ _).symm.trans H; with_reducible exact H2_) | with_reducible exact H | (rw [hy312]; exact H) | exact H
                                        have Ny312 := Aside0.mk hy312
                                        clear hy312
                                        have H' := Aside0.mk H
                                        clear H
                                        have p309 : 0 ≤ (x64_3 : Int) := of_decide_eq_true (by first | (with_reducible assumption) | assumption)
                                        have q309 : x64_3 < (t302.length : Int) := of_decide_eq_true (by first | (with_reducible assumption) | assumption)
                                        obtain ⟨ad309, e309, hx309_0⟩ := Kd.at_int (Kd.R_reads' HO_62.out).2.2 x64_3 p309 q309
                                        cases e309
                                        replace p309 := eq_true p309
                                        replace q309 := eq_true q309
                                        have p41 : 0 ≤ ((rd t302 x64_3) : Int) := of_decide_eq_true (by first | (with_reducible assumption) | assumption)
                                        have q41 : ((rd t302 x64_3) : Int) < ((x13_3.length : Int) : Int) := of_decide_eq_true (by first | (with_reducible assumption) | assumption)
                                        obtain ⟨go41, co41, eo41, gb41, gl41, cl41, HG41⟩ := Kd.R_form HO_13.out (by omega)
                                        (first | cases eo41 | (injection eo41 with ea_ en_ ec_; (first | subst ea_ | (injection ea_ with ea_; subst ea_)); subst ec_; clear en_))
                                        have GB41 := Aside0.mk gb41
                                        have GG41 := Aside0.mk HG41
                                        clear gb41 gl41 HG41
                                        obtain ⟨hx41_0, hf41_0⟩ := Kd.R_celln false HO_13.out ((rd t302 x64_3) : Int) p41 q41
                                        replace p41 := eq_true p41
                                        replace q41 := eq_true q41
                                        have HP44 := Kd.R_putg HO_13.out ((rd t302 x64_3) : Int) true
                                        go_wp2_with (first | ((with_reducible refine gate_store (t := 4) (p := 75) rfl ?_); refine store_event (t := 4) (p := 75) (v := ?vo_w45) (w1 := (wr.setCell ⟨go41, ((rd t302 x64_3) : Int).toNat, none⟩ (.bool true))) ?hg ?ho ?hn ?hr ?_; (case ho => rfl); (case hg => rfl); (case hn => rfl); (case hr => first | (go_simp; done) | (go_simp; rfl)); intro w45 hw; have hg : wr.grownBy w45 (some go41) := (by rw [hw]; exact HP44.2); have hp_ : Kd.R Kd.bool 4 w45 w.heap.size (fun _ => True) (.slice (some ⟨go41, 0, none⟩) x13_3.length co41) y310 := (by rw [hw, Ny310.out]; exact HP44.1); clear HP44; have n0_ := Aside0.mk (Kd.R_over' (v := (.slice (some ⟨go41, 0, none⟩) x13_3.length co41)) (by (with_reducible repeat (first | apply Kd.R_alloc | apply Kd.R_drewN | apply Kd.R_drew)); exact HO_7.out) (Kd.R_typed HO_13.out) (by decide) hg); have n1_ := Aside0.mk (hp_); have n2_ := Aside0.mk (Kd.R_over' (v := (.slice (some ⟨go41, 0, none⟩) x13_3.length co41)) (by (with_reducible repeat (first | apply Kd.R_alloc | apply Kd.R_drewN | apply Kd.R_drew)); exact HO_14.out) (Kd.R_typed HO_13.out) (by decide) hg); have n3_ := Aside0.mk (Kd.R_over' (v := (.slice (some ⟨go41, 0, none⟩) x13_3.length co41)) (by (with_reducible repeat (first | apply Kd.R_alloc | apply Kd.R_drewN | apply Kd.R_drew)); exact HO_62.out) (Kd.R_typed HO_13.out) (by decide) hg); have n4_ := Aside0.mk ((by rw [hw]; exact below_set (HB.out) GB41.out : Below w.heap.size w w45)); clear HO_7; clear HO_13; clear HO_14; clear HO_62; clear HB; have HO_7 := n0_; have HO_13 := n1_; have HO_14 := n2_; have HO_62 := n3_; have HB := n4_; clear n0_ n1_ n2_ n3_ n4_; clear hg hw hp_; have p311 : 0 ≤ ((rd t302 x64_3) : Int) := of_decide_eq_true (by first | (with_reducible assumption) | assumption); have q311 : (rd t302 x64_3) < (t273.length : Int) := of_decide_eq_true (by first | (with_reducible assumption) | assumption); obtain ⟨ad311, e311, hx311_0⟩ := Kd.at_string (Kd.R_reads' HO_7.out).2.2 (rd t302 x64_3) p311 q311; cases e311; replace p311 := eq_true p311; replace q311 := eq_true q311) | ((with_reducible refine gate_builtin (b := .append) (xs := #[.tmp 76, .tmp 81]) rfl ?_); at_builtin; refine Kd.R_append Kd.string (w0 := w) w.heap.size rfl (.tmp 76) (.tmp 81) 37 9 (.string ⟨#[]⟩) 16 rfl Tryd.underlying37 info9 rfl (by decide) (by omega) u14 x14_3 (rdOf ByteArray.empty t273 (rd t302 x64_3)) [.string (rdOf ByteArray.empty t273 (rd t302 x64_3))] (fun k_ => some k_ ≠ (.slice (some ad311) t273.length co14 : Value).ownBlock) (fun _ => False) rfl rfl ?aP (fun _ hk => hk.elim) ?aF ?aO ?aB ?aS ?aL ?_; (case aP => exact rfl); (case aB => exact (by repeat (first | (with_reducible first | exact HB.out | apply below_alloc | apply pw_below_drewN | apply below_drew1) | exact HB.out))); (case aF => exact (fun k_ hk => Kd.fresh' (Kd.R_lt (by (with_reducible repeat (first | apply Kd.R_alloc | apply Kd.R_drewN | apply Kd.R_drew)); exact HO_7.out)) k_ hk)); (case aO => exact (by (with_reducible repeat (first | apply Kd.R_alloc | apply Kd.R_drewN | apply Kd.R_drew)); exact HO_14.out)); (case aS => exact (below_size (by repeat (first | (with_reducible first | exact HB.out | apply below_alloc | apply pw_below_drewN | apply below_drew1) | exact HB.out)))); (case aL => have := LMc43.out; omega); intro v313 w46 ho hb hg hat; rw [← Ny312.out] at ho; have n0_ := Aside0.mk (Kd.R_after (ok := (fun _ => True)) (by (with_reducible repeat (first | apply Kd.R_alloc | apply Kd.R_drewN | apply Kd.R_drew)); exact Kd.R_mono HO_7.out (fun _ hk => ⟨trivial, hk⟩)) hg hat); have n1_ := Aside0.mk (Kd.R_over' (by (with_reducible repeat (first | apply Kd.R_alloc | apply Kd.R_drewN | apply Kd.R_drew)); exact HO_13.out) (Kd.R_typed (by (with_reducible repeat (first | apply Kd.R_alloc | apply Kd.R_drewN | apply Kd.R_drew)); exact HO_14.out)) (by decide) hg); have n2_ := Aside0.mk (Kd.R_over' (by (with_reducible repeat (first | apply Kd.R_alloc | apply Kd.R_drewN | apply Kd.R_drew)); exact HO_62.out) (Kd.R_typed (by (with_reducible repeat (first | apply Kd.R_alloc | apply Kd.R_drewN | apply Kd.R_drew)); exact HO_14.out)) (by decide) hg); have n3_ := Aside0.mk (hb); have n4_ := Aside0.mk (ho); clear HO_7; clear HO_13; clear HO_62; clear HB; clear HO_14; have HO_7 := n0_; have HO_13 := n1_; have HO_62 := n2_; have HB := n3_; have HO314 := n4_; clear n0_ n1_ n2_ n3_ n4_; clear ho hb hg hat))
                                        go_roundg k3
                                        case measure => have := HJ2.out; have := HJ9.out; have := HK3.out; omega
                                        case rel => exact ⟨(y310), (y312), (wrap64 (x64_3 + 1)), (by first | rfl | (simp; done) | (simp [*]; done)), H', ⟨by have := HJ2.out; have := HJ9.out; have := HK3.out; omega⟩, ⟨by (with_reducible repeat (first | apply Kd.R_alloc | apply Kd.R_drewN | apply Kd.R_drew)); exact Kd.R_mono HO_7.out (fun _ hk => hk.2)⟩, ⟨by (with_reducible repeat (first | apply Kd.R_alloc | apply Kd.R_drewN | apply Kd.R_drew)); exact HO_13.out⟩, ⟨by (with_reducible repeat (first | apply Kd.R_alloc | apply Kd.R_drewN | apply Kd.R_drew)); exact HO314.out⟩, ⟨by (with_reducible repeat (first | apply Kd.R_alloc | apply Kd.R_drewN | apply Kd.R_drew)); exact HO_62.out⟩, ⟨by repeat (first | (with_reducible first | exact HB.out | apply below_alloc | apply pw_below_drewN | apply below_drew1) | exact HB.out)⟩⟩
                                      · rw [if_neg c43] at H
                                        exact absurd H (by simp)
                                    · rw [if_neg c42] at H
                                      exact absurd H (by simp)
                                  · rw [if_neg c40] at H
                                    exact absurd H (by simp)
                                · rw [if_neg c39] at H
                                  exact absurd H (by simp)
                            · rw [if_neg c37] at H
                              exact absurd H (by simp)
                          · rw [if_neg c36] at H
                            exact absurd H (by simp)
                        · rw [if_neg c35] at H
                          have c35b0 : decide (x64_3 < (t302.length : Int)) = false := decide_eq_false c35
                          clear c35
                          replace H := Option.bind_eq_some_iff.mp H
                          obtain ⟨t315, A470, H⟩ := H
                          replace H : (if t315 = true then (some (([] : List ByteArray), 4)) else (some (x14_3, 0))) = some (r1, r2) := H
                          have A47 := Aside0.mk A470
                          clear A470
                          by_cases c48 : t315 = true
                          · subst c48
                            have H1 : (some (([] : List ByteArray), 4)) = some (r1, r2) := by rw [if_pos rfl] at H; exact H
                            clear H
                            have H := H1
                            clear H1
                            simp only [Option.some.injEq, Prod.mk.injEq] at H
                            obtain ⟨rfl, rfl⟩ := H
                            obtain ⟨Ao49, co49, eo49⟩ := Kd.R_slice HO_13.out
                            subst eo49
                            go_wp2_with (first | ((with_reducible refine gate_callee (f := 56) rfl ?_); refine goesL_ (some 85) rfl rfl Tryd.func56 (by kernel_rfl) rfl #[.slice Ao49 x13_3.length co49, .bool false] rfl (by (try simp only [List.map_toArray, List.map_cons, List.map_nil]); first | done | rfl | (simp only [List.length_drop, List.length_take]; rfl)) ?_; (with_reducible refine (slices_Contains_bool_bool.calls k3 _ _ x13_3 false true _ ?side1 ?side2 A47.out).mono ?_); (case side1 => repeat (first | exact (Kd.R_reads' HO_13.out).2.2 | (with_reducible refine Kd.C_alloc ?_ _) | (with_reducible refine Kd.C_drewN ?_ _) | (with_reducible refine Kd.C_drew ?_))); (case side2 => exact (Kd.R_reads' HO_13.out).2.1); rintro e w' ⟨rfl, ⟨nd, rfl⟩⟩; refine ⟨_, rfl, ?_⟩))
                            go_ret2
                            exact ⟨_, by first | rfl | (simp [errW_none, errW_some] <;> rfl) | (simp [*, errW_none, errW_some] <;> rfl), by first | exact Kd.R_nil _ _ _ _ _ | exact Kd.N_nil _ _ _ _ _ | exact Kd.V_nil _ _ _ _ _ | exact Kd.Q_nil _ _ _ _ _ | exact Kd.S_nil _ _ _ _ _, by repeat (first | (with_reducible first | exact HB.out | apply below_alloc | apply pw_below_drewN | apply below_drew1) | exact HB.out)⟩
                          · replace c48 := Bool.eq_false_iff.mpr c48
                            subst c48
                            have H1 : (some (x14_3, 0)) = some (r1, r2) := by rw [if_neg (show ¬ (false = true) by decide)] at H; exact H
                            clear H
                            have H := H1
                            clear H1
                            simp only [Option.some.injEq, Prod.mk.injEq] at H
                            obtain ⟨rfl, rfl⟩ := H
                            obtain ⟨Ao50, co50, eo50⟩ := Kd.R_slice HO_13.out
                            subst eo50
                            go_wp2_with (first | ((with_reducible refine gate_callee (f := 56) rfl ?_); refine goesL_ (some 85) rfl rfl Tryd.func56 (by kernel_rfl) rfl #[.slice Ao50 x13_3.length co50, .bool false] rfl (by (try simp only [List.map_toArray, List.map_cons, List.map_nil]); first | done | rfl | (simp only [List.length_drop, List.length_take]; rfl)) ?_; (with_reducible refine (slices_Contains_bool_bool.calls k3 _ _ x13_3 false false _ ?side1 ?side2 A47.out).mono ?_); (case side1 => repeat (first | exact (Kd.R_reads' HO_13.out).2.2 | (with_reducible refine Kd.C_alloc ?_ _) | (with_reducible refine Kd.C_drewN ?_ _) | (with_reducible refine Kd.C_drew ?_))); (case side2 => exact (Kd.R_reads' HO_13.out).2.1); rintro e w' ⟨rfl, ⟨nd, rfl⟩⟩; refine ⟨_, rfl, ?_⟩))
                            go_ret2
                            exact ⟨_, by first | rfl | (simp [errW_none, errW_some] <;> rfl) | (simp [*, errW_none, errW_some] <;> rfl), by (with_reducible repeat (first | apply Kd.R_alloc | apply Kd.R_drewN | apply Kd.R_drew)); exact Kd.R_mono HO_14.out (fun _ hk => trivial), by repeat (first | (with_reducible first | exact HB.out | apply below_alloc | apply pw_below_drewN | apply below_drew1) | exact HB.out)⟩
                  · rw [if_neg c26] at H
                    exact absurd H (by simp)
                · rw [if_neg c25] at H
                  exact absurd H (by simp)
              · rw [if_neg c24] at H
                have c24b0 : (t303 == 0) = false := beq_eq_false_iff_ne.mpr c24
                have c24b1 : (t303 != 0) = true := bne_iff_ne.mpr c24
                simp only [Option.some.injEq, Prod.mk.injEq] at H
                obtain ⟨rfl, rfl⟩ := H
                go_wp2_with (first | ((with_reducible refine gate_callee (f := 39) rfl ?_); refine goesL_ (some 40) rfl rfl Tryd.func39 (by kernel_rfl) rfl #[.pointer (some ⟨g272, 0, none⟩)] rfl (by (try simp only [List.map_toArray, List.map_cons, List.map_nil]); first | done | rfl | (simp only [List.length_drop, List.length_take]; rfl)) ?_; (with_reducible refine (num_Reader_Err.calls g272 t268 x273001_9 x273002_9 x273003_9 t287 t288 t289 t290 t291 w _ ?side1 ?side2 A19.out).mono ?_); (case side1 => repeat (first | (with_reducible first | exact HI272.out | apply IsS87.alloc | apply IsS87.drewN | apply IsS87.drew | apply IsS87.set_1 | apply IsS87.set_2 | apply IsS87.set_3) | exact HI272.out)); (case side2 => repeat (first | (with_reducible first | exact HB.out | apply below_alloc | apply pw_below_drewN | apply below_drew1 | refine below_set ?_ (IsS87.ge HI272.out)) | exact HB.out)); rintro e w51 ⟨rfl, hi, hb, hk⟩; refine ⟨_, rfl, ?_⟩; have n0_ := Aside0.mk (Kd.R_mono (Kd.R_keep (IsS87.apart (show IsS87 w _ g272 t268 x273001_9 x273002_9 x273003_9 from by repeat (first | (with_reducible first | exact HI272.out | apply IsS87.alloc | apply IsS87.drewN | apply IsS87.drew | apply IsS87.set_1 | apply IsS87.set_2 | apply IsS87.set_3) | exact HI272.out)) (by (with_reducible repeat (first | apply Kd.R_alloc | apply Kd.R_drewN | apply Kd.R_drew)); exact HO_7.out) (by decide)) hk (fun _ h => h.2)) (fun _ h => h.1)); have n1_ := Aside0.mk (hb); have n2_ := Aside0.mk (hi); clear HO_7; clear HB; clear HI272; have HO_7 := n0_; have HB := n1_; have HI272 := n2_; clear n0_ n1_ n2_; (try clear hb); (try clear hb2); (try clear hk); (try clear hi)) | ((with_reducible refine gate_callee (f := 42) rfl ?_); refine goesL_ (some 49) rfl rfl Tryd.func42 (by kernel_rfl) rfl #[.pointer (some ⟨g272, 0, none⟩)] rfl (by (try simp only [List.map_toArray, List.map_cons, List.map_nil]); first | done | rfl | (simp only [List.length_drop, List.length_take]; rfl)) ?_; (with_reducible refine (num_Reader_Left.calls g272 t268 t289 t290 t291 t292 t293 t294 t295 w _ ?side1 ?side2 A21.out).mono ?_); (case side1 => repeat (first | (with_reducible first | exact HI272.out | apply IsS87.alloc | apply IsS87.drewN | apply IsS87.drew | apply IsS87.set_1 | apply IsS87.set_2 | apply IsS87.set_3) | exact HI272.out)); (case side2 => repeat (first | (with_reducible first | exact HB.out | apply below_alloc | apply pw_below_drewN | apply below_drew1 | refine below_set ?_ (IsS87.ge HI272.out)) | exact HB.out)); rintro e w52 ⟨rfl, hi, hb, hk⟩; refine ⟨_, rfl, ?_⟩; have n0_ := Aside0.mk (Kd.R_mono (Kd.R_keep (IsS87.apart (show IsS87 w _ g272 t268 t289 t290 t291 from by repeat (first | (with_reducible first | exact HI272.out | apply IsS87.alloc | apply IsS87.drewN | apply IsS87.drew | apply IsS87.set_1 | apply IsS87.set_2 | apply IsS87.set_3) | exact HI272.out)) (by (with_reducible repeat (first | apply Kd.R_alloc | apply Kd.R_drewN | apply Kd.R_drew)); exact HO_7.out) (by decide)) hk (fun _ h => h.2)) (fun _ h => h.1)); have n1_ := Aside0.mk (hb); have n2_ := Aside0.mk (hi); clear HO_7; clear HB; clear HI272; have HO_7 := n0_; have HB := n1_; have HI272 := n2_; clear n0_ n1_ n2_; (try clear hb); (try clear hb2); (try clear hk); (try clear hi)) | ((with_reducible refine gate_callee (f := 41) rfl ?_); refine goesL_ (some 50) rfl rfl Tryd.func41 (by kernel_rfl) rfl #[.pointer (some ⟨g272, 0, none⟩), .int .i64 t292] rfl (by (try simp only [List.map_toArray, List.map_cons, List.map_nil]); first | done | rfl | (simp only [List.length_drop, List.length_take]; rfl)) ?_; (with_reducible refine (num_Reader_Take.calls g272 t268 t293 t294 t295 t292 t296 t299 t300 t301 w _ ?side1 ?side2 A22.out).mono ?_); (case side1 => repeat (first | (with_reducible first | exact HI272.out | apply IsS87.alloc | apply IsS87.drewN | apply IsS87.drew | apply IsS87.set_1 | apply IsS87.set_2 | apply IsS87.set_3) | exact HI272.out)); (case side2 => repeat (first | (with_reducible first | exact HB.out | apply below_alloc | apply pw_below_drewN | apply below_drew1 | refine below_set ?_ (IsS87.ge HI272.out)) | exact HB.out)); rintro e w53 ⟨v297, rfl, ho0, hi, hb, hk⟩; refine ⟨_, rfl, ?_⟩; have n0_ := Aside0.mk (Kd.R_mono (Kd.R_keep (IsS87.apart (show IsS87 w _ g272 t268 t293 t294 t295 from by repeat (first | (with_reducible first | exact HI272.out | apply IsS87.alloc | apply IsS87.drewN | apply IsS87.drew | apply IsS87.set_1 | apply IsS87.set_2 | apply IsS87.set_3) | exact HI272.out)) (by (with_reducible repeat (first | apply Kd.R_alloc | apply Kd.R_drewN | apply Kd.R_drew)); exact HO_7.out) (by decide)) hk (fun _ h => h.2)) (fun _ h => h.1)); have n1_ := Aside0.mk (Kd.R_lower ho0 (below_size (by repeat (first | (with_reducible first | exact HB.out | apply below_alloc | apply pw_below_drewN | apply below_drew1 | refine below_set ?_ (IsS87.ge HI272.out)) | exact HB.out)))); have n2_ := Aside0.mk (hb); have n3_ := Aside0.mk (hi); clear HO_7; clear HB; clear HI272; have HO_7 := n0_; have HO298 := n1_; have HB := n2_; have HI272 := n3_; clear n0_ n1_ n2_ n3_; (try clear hb); (try clear hb2); (try clear hk); (try clear hi); (try clear ho0); obtain ⟨Ao54, co54, eo54⟩ := Kd.R_slice HO298.out; subst eo54) | ((with_reducible refine gate_callee (f := 40) rfl ?_); refine goesL_ (some 53) rfl rfl Tryd.func40 (by kernel_rfl) rfl #[.slice Ao54 t296.length co54, .int .i64 a1, .int .i64 (wrap64 (t279))] rfl (by (try simp only [List.map_toArray, List.map_cons, List.map_nil]); first | done | rfl | (simp only [List.length_drop, List.length_take]; rfl)) ?_; (with_reducible refine (bits_Unpack.calls kj9 _ _ t296 a1 (wrap64 (t279)) t302 t303 _ ?side1 ?side2 A23.out).mono ?_); (case side1 => repeat (first | exact (Kd.R_reads' HO298.out).2.2 | (with_reducible refine Kd.C_alloc ?_ _) | (with_reducible refine Kd.C_drewN ?_ _) | (with_reducible refine Kd.C_drew ?_))); (case side2 => exact (Kd.R_reads' HO298.out).2.1); rintro e w55 ⟨v304, rfl, ho0, hb⟩; refine ⟨_, rfl, ?_⟩; have n0_ := Aside0.mk (Kd.R_below (by (with_reducible repeat (first | apply Kd.R_alloc | apply Kd.R_drewN | apply Kd.R_drew)); exact HO_7.out) hb); have n1_ := Aside0.mk (Kd.R_below (by (with_reducible repeat (first | apply Kd.R_alloc | apply Kd.R_drewN | apply Kd.R_drew)); exact HO298.out) hb); have n2_ := Aside0.mk (Kd.R_lower ho0 (below_size (by repeat (first | (with_reducible first | exact HB.out | apply below_alloc | apply pw_below_drewN | apply below_drew1 | refine below_set ?_ (IsS87.ge HI272.out)) | exact HB.out)))); have n3_ := Aside0.mk (IsS87.below (by repeat (first | (with_reducible first | exact HI272.out | apply IsS87.alloc | apply IsS87.drewN | apply IsS87.drew | apply IsS87.set_1 | apply IsS87.set_2 | apply IsS87.set_3) | exact HI272.out)) hb); have n4_ := Aside0.mk (below_step (by repeat (first | (with_reducible first | exact HB.out | apply below_alloc | apply pw_below_drewN | apply below_drew1 | refine below_set ?_ (IsS87.ge HI272.out)) | exact HB.out)) hb); clear HO_7; clear HO298; clear HI272; clear HB; have HO_7 := n0_; have HO298 := n1_; have HO305 := n2_; have HI272 := n3_; have HB := n4_; clear n0_ n1_ n2_ n3_ n4_; (try clear hb); (try clear hb2); (try clear hk); (try clear hi); (try clear ho0)))
                go_ret2
                exact ⟨_, by first | rfl | (simp [errW_none, errW_some] <;> rfl) | (simp [*, errW_none, errW_some] <;> rfl), by first | exact Kd.R_nil _ _ _ _ _ | exact Kd.N_nil _ _ _ _ _ | exact Kd.V_nil _ _ _ _ _ | exact Kd.Q_nil _ _ _ _ _ | exact Kd.S_nil _ _ _ _ _, by repeat (first | (with_reducible first | exact HB.out | apply below_alloc | apply pw_below_drewN | apply below_drew1 | refine below_set ?_ (IsS87.ge HI272.out)) | exact HB.out)⟩
            · rw [if_neg c20] at H
              have c20b0 : (t287 == 0) = false := beq_eq_false_iff_ne.mpr c20
              have c20b1 : (t287 != 0) = true := bne_iff_ne.mpr c20
              simp only [Option.some.injEq, Prod.mk.injEq] at H
              obtain ⟨rfl, rfl⟩ := H
              go_wp2_with (first | ((with_reducible refine gate_callee (f := 39) rfl ?_); refine goesL_ (some 40) rfl rfl Tryd.func39 (by kernel_rfl) rfl #[.pointer (some ⟨g272, 0, none⟩)] rfl (by (try simp only [List.map_toArray, List.map_cons, List.map_nil]); first | done | rfl | (simp only [List.length_drop, List.length_take]; rfl)) ?_; (with_reducible refine (num_Reader_Err.calls g272 t268 x273001_9 x273002_9 x273003_9 t287 t288 t289 t290 t291 w _ ?side1 ?side2 A19.out).mono ?_); (case side1 => repeat (first | (with_reducible first | exact HI272.out | apply IsS87.alloc | apply IsS87.drewN | apply IsS87.drew | apply IsS87.set_1 | apply IsS87.set_2 | apply IsS87.set_3) | exact HI272.out)); (case side2 => repeat (first | (with_reducible first | exact HB.out | apply below_alloc | apply pw_below_drewN | apply below_drew1 | refine below_set ?_ (IsS87.ge HI272.out)) | exact HB.out)); rintro e w56 ⟨rfl, hi, hb, hk⟩; refine ⟨_, rfl, ?_⟩; have n0_ := Aside0.mk (Kd.R_mono (Kd.R_keep (IsS87.apart (show IsS87 w _ g272 t268 x273001_9 x273002_9 x273003_9 from by repeat (first | (with_reducible first | exact HI272.out | apply IsS87.alloc | apply IsS87.drewN | apply IsS87.drew | apply IsS87.set_1 | apply IsS87.set_2 | apply IsS87.set_3) | exact HI272.out)) (by (with_reducible repeat (first | apply Kd.R_alloc | apply Kd.R_drewN | apply Kd.R_drew)); exact HO_7.out) (by decide)) hk (fun _ h => h.2)) (fun _ h => h.1)); have n1_ := Aside0.mk (hb); have n2_ := Aside0.mk (hi); clear HO_7; clear HB; clear HI272; have HO_7 := n0_; have HB := n1_; have HI272 := n2_; clear n0_ n1_ n2_; (try clear hb); (try clear hb2); (try clear hk); (try clear hi)))
              go_ret2
              exact ⟨_, by first | rfl | (simp [errW_none, errW_some] <;> rfl) | (simp [*, errW_none, errW_some] <;> rfl), by first | exact Kd.R_nil _ _ _ _ _ | exact Kd.N_nil _ _ _ _ _ | exact Kd.V_nil _ _ _ _ _ | exact Kd.Q_nil _ _ _ _ _ | exact Kd.S_nil _ _ _ _ _, by repeat (first | (with_reducible first | exact HB.out | apply below_alloc | apply pw_below_drewN | apply below_drew1 | refine below_set ?_ (IsS87.ge HI272.out)) | exact HB.out)⟩

/-! ### estreatref01_look: function 74 -/
mutual
def estreatref01_look.l0 : Nat → List Int → Int → Int → Option (Int × Int × Int)
  | 0, _, _, _ => none
  | k + 1, x0, x5, x6 => if x6 < (x0.length : Int) then (if 0 ≤ x6 then (if x6 > 9 then (estreatref01_look.j1 k x0 x5 x6 (IntKind.u64.wrap (Int.tmod (rd x0 x6) 128)) true) else (if x6 = 9 then (if (IntKind.u64.wrap (Int.tmod (rd x0 x6) 128)) > 1 then (estreatref01_look.j1 k x0 x5 x6 (IntKind.u64.wrap (Int.tmod (rd x0 x6) 128)) true) else (if x6 > 0 then (estreatref01_look.j1 k x0 x5 x6 (IntKind.u64.wrap (Int.tmod (rd x0 x6) 128)) ((rd x0 x6) == 0)) else (estreatref01_look.j1 k x0 x5 x6 (IntKind.u64.wrap (Int.tmod (rd x0 x6) 128)) false))) else (if x6 > 0 then (estreatref01_look.j1 k x0 x5 x6 (IntKind.u64.wrap (Int.tmod (rd x0 x6) 128)) ((rd x0 x6) == 0)) else (estreatref01_look.j1 k x0 x5 x6 (IntKind.u64.wrap (Int.tmod (rd x0 x6) 128)) false)))) else (none)) else (some (0, 0, 2))
def estreatref01_look.j1 : Nat → List Int → Int → Int → Int → Bool → Option (Int × Int × Int)
  | 0, _, _, _, _, _ => none
  | k + 1, x0, x5, x6, x7, x42 => if x42 = true then (some (0, 0, 4)) else (estreatref01_look.l1 k x0 x5 x6 x7 1 0)
def estreatref01_look.l1 : Nat → List Int → Int → Int → Int → Int → Int → Option (Int × Int × Int)
  | 0, _, _, _, _, _, _ => none
  | k + 1, x0, x5, x6, x7, x8, x9 => if x9 < x6 then (estreatref01_look.l1 k x0 x5 x6 x7 (IntKind.u64.wrap (x8 * 128)) (wrap64 (x9 + 1))) else (if 0 ≤ x6 then (if x6 < (x0.length : Int) then (if (rd x0 x6) < 128 then (some (IntKind.u64.wrap (x5 + (IntKind.u64.wrap (x7 * x8))), wrap64 (x6 + 1), 0)) else (estreatref01_look.l0 k x0 (IntKind.u64.wrap (x5 + (IntKind.u64.wrap (x7 * x8)))) (wrap64 (x6 + 1)))) else (none)) else (none))
end
def estreatref01_look.f (k : Nat) (l0 : List Int) : Option (Int × Int × Int) := estreatref01_look.l0 k l0 0 0
set_option maxHeartbeats 8000000 in
set_option maxRecDepth 100000 in
theorem estreatref01_look.calls (k : Nat) (A0 : Option Addr) (c0 : Nat) (l0 : List Int) (r1 : Int) (r2 : Int) (r3 : Int) (w : World) (hr0 : Kd.C (Kd.int .u8) w A0 l0.length l0) (hc0 : l0.length ≤ c0) (h : estreatref01_look.f k l0 = some (r1, r2, r3)) :
    Calls Tryd.prog 74 #[.slice A0 l0.length c0] w fun e w' => e = .returned (.tuple #[.int .u64 r1, .int .i64 r2, .int .i64 r3]) ∧ Drawn0 w w' := by
  have HR0 := Aside0.mk hr0
  have HC0 := Aside0.mk hc0
  clear hr0 hc0
  have H : (estreatref01_look.l0 k l0 0 0) = some (r1, r2, r3) := h
  clear h
  have H' := Aside0.mk H
  clear H
  go_enter Tryd.func74, Tryd.ntmps74
  go_wp2
  go_loopg [5, 6] k (fun kq v5 v6 w' => ∃ (x5_1 : Int) (x6_1 : Int), v5 = .int .u64 x5_1 ∧ v6 = .int .i64 x6_1 ∧ Aside0 (estreatref01_look.l0 kq l0 x5_1 x6_1 = some (r1, r2, r3)) ∧ Aside0 (kq ≤ k) ∧ Drawn0 w w')
  case atStart => exact ⟨(0), (0), (by first | rfl | (simp; done) | (simp [*]; done)), (by first | rfl | (simp; done) | (simp [*]; done)), H', ⟨Nat.le_refl _⟩, by repeat (first | exact Drawn0.refl _ | apply Drawn0.step)⟩
  case round =>
    clear H'
    obtain ⟨x5_1, x6_1, rfl, rfl, HA, HK1, ⟨m1, rfl⟩⟩ := hrel
    cases gk with
    | zero => exact absurd HA.out (by simp [estreatref01_look.l0])
    | succ k1 =>
      have H := HA.out
      clear HA
      simp only [estreatref01_look.l0] at H
      by_cases c2 : x6_1 < (l0.length : Int)
      · rw [if_pos c2] at H
        have c2b0 : decide (x6_1 < (l0.length : Int)) = true := decide_eq_true c2
        clear c2
        by_cases c3 : 0 ≤ x6_1
        · rw [if_pos c3] at H
          have c3b0 : decide (0 ≤ x6_1) = true := decide_eq_true c3
          clear c3
          have HC4 := Aside0.mk H
          clear H
          have p316 : 0 ≤ (x6_1 : Int) := of_decide_eq_true (by first | (with_reducible assumption) | assumption)
          have q316 : x6_1 < (l0.length : Int) := of_decide_eq_true (by first | (with_reducible assumption) | assumption)
          obtain ⟨ad316, e316, hx316_0⟩ := Kd.at_int HR0.out x6_1 p316 q316
          cases e316
          replace p316 := eq_true p316
          replace q316 := eq_true q316
          go_upto_region 6 with (fail)
          go_cut [42] (fun v42 wc => ∃ (kq : Nat) (x42_3 : Bool), v42 = .bool x42_3 ∧ Aside0 (estreatref01_look.j1 kq l0 x5_1 x6_1 (IntKind.u64.wrap (Int.tmod (rd l0 x6_1) 128)) x42_3 = some (r1, r2, r3)) ∧ Aside0 (kq ≤ k1) ∧ Drawn0 w wc)
          case first =>
            have H := HC4.out
            clear HC4
            by_cases c5 : x6_1 > 9
            · rw [if_pos c5] at H
              have c5b0 : decide (9 < x6_1) = true := decide_eq_true c5
              clear c5
              (first | rw [c5b0] | (simp only [i64_w, i32_w]; rw [c5b0]) | skip)
              have H' := Aside0.mk H
              clear H
              go_wp2
              go_meet
              case rel => exact ⟨_, (true), (by first | rfl | (simp; done) | (simp [*]; done)), H', ⟨by have := HK1.out; first | omega | exact Nat.le_refl _⟩, by repeat (first | exact Drawn0.refl _ | apply Drawn0.step)⟩
            · rw [if_neg c5] at H
              have c5b0 : decide (9 < x6_1) = false := decide_eq_false c5
              clear c5
              (first | rw [c5b0] | (simp only [i64_w, i32_w]; rw [c5b0]) | skip)
              by_cases c6 : x6_1 = 9
              · rw [if_pos c6] at H
                have c6b0 : (x6_1 == 9) = true := beq_iff_eq.mpr c6
                have c6b1 : (x6_1 != 9) = false := bne_eq_false_iff_eq.mpr c6
                clear c6
                by_cases c7 : (IntKind.u64.wrap (Int.tmod (rd l0 x6_1) 128)) > 1
                · rw [if_pos c7] at H
                  have c7b0 : decide (1 < (IntKind.u64.wrap (Int.tmod (rd l0 x6_1) 128))) = true := decide_eq_true c7
                  clear c7
                  have H' := Aside0.mk H
                  clear H
                  go_wp2
                  go_meet
                  case rel => exact ⟨_, (true), (by first | rfl | (simp; done) | (simp [*]; done)), H', ⟨by have := HK1.out; first | omega | exact Nat.le_refl _⟩, by repeat (first | exact Drawn0.refl _ | apply Drawn0.step)⟩
                · rw [if_neg c7] at H
                  have c7b0 : decide (1 < (IntKind.u64.wrap (Int.tmod (rd l0 x6_1) 128))) = false := decide_eq_false c7
                  clear c7
                  by_cases c8 : x6_1 > 0
                  · rw [if_pos c8] at H
                    have c8b0 : decide (0 < x6_1) = true := decide_eq_true c8
                    clear c8
                    have H' := Aside0.mk H
                    clear H
                    have p317 : 0 ≤ (x6_1 : Int) := of_decide_eq_true (by first | (with_reducible assumption) | assumption)
                    have q317 : x6_1 < (l0.length : Int) := of_decide_eq_true (by first | (with_reducible assumption) | assumption)
                    obtain ⟨ad317, e317, hx317_0⟩ := Kd.at_int HR0.out x6_1 p317 q317
                    obtain rfl : ad316 = ad317 := (by injection e317)
                    replace p317 := eq_true p317
                    replace q317 := eq_true q317
                    go_wp2
                    go_meet
                    case rel => exact ⟨_, (((rd l0 x6_1) == 0)), (by first | rfl | (simp; done) | (simp [*]; done)), H', ⟨by have := HK1.out; first | omega | exact Nat.le_refl _⟩, by repeat (first | exact Drawn0.refl _ | apply Drawn0.step)⟩
                  · rw [if_neg c8] at H
                    have c8b0 : decide (0 < x6_1) = false := decide_eq_false c8
                    clear c8
                    have H' := Aside0.mk H
                    clear H
                    go_wp2
                    go_meet
                    case rel => exact ⟨_, (false), (by first | rfl | (simp; done) | (simp [*]; done)), H', ⟨by have := HK1.out; first | omega | exact Nat.le_refl _⟩, by repeat (first | exact Drawn0.refl _ | apply Drawn0.step)⟩
              · rw [if_neg c6] at H
                have c6b0 : (x6_1 == 9) = false := beq_eq_false_iff_ne.mpr c6
                have c6b1 : (x6_1 != 9) = true := bne_iff_ne.mpr c6
                by_cases c9 : x6_1 > 0
                · rw [if_pos c9] at H
                  have c9b0 : decide (0 < x6_1) = true := decide_eq_true c9
                  clear c9
                  have H' := Aside0.mk H
                  clear H
                  have p318 : 0 ≤ (x6_1 : Int) := of_decide_eq_true (by first | (with_reducible assumption) | assumption)
                  have q318 : x6_1 < (l0.length : Int) := of_decide_eq_true (by first | (with_reducible assumption) | assumption)
                  obtain ⟨ad318, e318, hx318_0⟩ := Kd.at_int HR0.out x6_1 p318 q318
                  obtain rfl : ad316 = ad318 := (by injection e318)
                  replace p318 := eq_true p318
                  replace q318 := eq_true q318
                  go_wp2
                  go_meet
                  case rel => exact ⟨_, (((rd l0 x6_1) == 0)), (by first | rfl | (simp; done) | (simp [*]; done)), H', ⟨by have := HK1.out; first | omega | exact Nat.le_refl _⟩, by repeat (first | exact Drawn0.refl _ | apply Drawn0.step)⟩
                · rw [if_neg c9] at H
                  have c9b0 : decide (0 < x6_1) = false := decide_eq_false c9
                  clear c9
                  have H' := Aside0.mk H
                  clear H
                  go_wp2
                  go_meet
                  case rel => exact ⟨_, (false), (by first | rfl | (simp; done) | (simp [*]; done)), H', ⟨by have := HK1.out; first | omega | exact Nat.le_refl _⟩, by repeat (first | exact Drawn0.refl _ | apply Drawn0.step)⟩
          case rest =>
            clear HC4
            try clear c2
            try clear c2b0
            try clear p2
            try clear c3
            try clear c3b0
            try clear p3
            try clear q3
            try clear hx3
            try clear c5
            try clear c5b0
            try clear c6
            try clear c6b0
            try clear c6b1
            try clear c7
            try clear c7b0
            try clear c8
            try clear c8b0
            try clear c9
            try clear c9b0
            try clear hx316_0
            try clear hx317_0
            try clear hx318_0
            try clear p316
            try clear p317
            try clear p318
            try clear q316
            try clear q317
            try clear q318
            obtain ⟨kq, x42_3, rfl, HA, HJ3, ⟨mc3, rfl⟩⟩ := hcut
            cases kq with
            | zero => exact absurd HA.out (by simp [estreatref01_look.j1])
            | succ kj3 =>
              have H := HA.out
              clear HA
              simp only [estreatref01_look.j1] at H
              by_cases c10 : x42_3 = true
              · subst c10
                have H1 : (some (0, 0, 4)) = some (r1, r2, r3) := by rw [if_pos rfl] at H; exact H
                clear H
                have H := H1
                clear H1
                simp only [Option.some.injEq, Prod.mk.injEq] at H
                obtain ⟨rfl, rfl, rfl⟩ := H
                go_wp2
                go_ret3
                exact ⟨by first | rfl | (simp; done) | (simp [*]; done), by repeat (first | exact Drawn0.refl _ | apply Drawn0.step)⟩
              · replace c10 := Bool.eq_false_iff.mpr c10
                subst c10
                have H1 : (estreatref01_look.l1 kj3 l0 x5_1 x6_1 (IntKind.u64.wrap (Int.tmod (rd l0 x6_1) 128)) 1 0) = some (r1, r2, r3) := by rw [if_neg (show ¬ (false = true) by decide)] at H; exact H
                clear H
                have H := H1
                clear H1
                have H' := Aside0.mk H
                clear H
                go_wp2
                go_loopg [8, 9] kj3 (fun kq v8 v9 w' => ∃ (x8_3 : Int) (x9_3 : Int), v8 = .int .u64 x8_3 ∧ v9 = .int .i64 x9_3 ∧ Aside0 (estreatref01_look.l1 kq l0 x5_1 x6_1 (IntKind.u64.wrap (Int.tmod (rd l0 x6_1) 128)) x8_3 x9_3 = some (r1, r2, r3)) ∧ Aside0 (kq ≤ kj3) ∧ Drawn0 w w')
                case atStart => exact ⟨(1), (0), (by first | rfl | (simp; done) | (simp [*]; done)), (by first | rfl | (simp; done) | (simp [*]; done)), H', ⟨Nat.le_refl _⟩, by repeat (first | exact Drawn0.refl _ | apply Drawn0.step)⟩
                case round =>
                  clear H'
                  try clear c1
                  try clear c2
                  try clear c2b0
                  try clear p2
                  try clear c3
                  try clear c3b0
                  try clear p3
                  try clear q3
                  try clear hx3
                  try clear c5
                  try clear c5b0
                  try clear c6
                  try clear c6b0
                  try clear c6b1
                  try clear c7
                  try clear c7b0
                  try clear c8
                  try clear c8b0
                  try clear c9
                  try clear c9b0
                  try clear c10
                  try clear hx316_0
                  try clear hx317_0
                  try clear hx318_0
                  try clear p2
                  try clear p3
                  try clear p316
                  try clear p317
                  try clear p318
                  try clear q3
                  try clear q316
                  try clear q317
                  try clear q318
                  obtain ⟨x8_3, x9_3, rfl, rfl, HA, HK3, ⟨m3, rfl⟩⟩ := hrel
                  cases gk with
                  | zero => exact absurd HA.out (by simp [estreatref01_look.l1])
                  | succ k3 =>
                    have H := HA.out
                    clear HA
                    simp only [estreatref01_look.l1] at H
                    by_cases c11 : x9_3 < x6_1
                    · rw [if_pos c11] at H
                      have c11b0 : decide (x9_3 < x6_1) = true := decide_eq_true c11
                      clear c11
                      have H' := Aside0.mk H
                      clear H
                      go_wp2
                      go_roundg k3
                      case measure => have := HK1.out; have := HJ3.out; have := HK3.out; omega
                      case rel => exact ⟨(IntKind.u64.wrap (x8_3 * 128)), (wrap64 (x9_3 + 1)), (by first | rfl | (simp; done) | (simp [*]; done)), (by first | rfl | (simp; done) | (simp [*]; done)), H', ⟨by have := HK1.out; have := HJ3.out; have := HK3.out; omega⟩, by repeat (first | exact Drawn0.refl _ | apply Drawn0.step)⟩
                    · rw [if_neg c11] at H
                      have c11b0 : decide (x9_3 < x6_1) = false := decide_eq_false c11
                      clear c11
                      by_cases c12 : 0 ≤ x6_1
                      · rw [if_pos c12] at H
                        have c12b0 : decide (0 ≤ x6_1) = true := decide_eq_true c12
                        clear c12
                        by_cases c13 : x6_1 < (l0.length : Int)
                        · rw [if_pos c13] at H
                          have c13b0 : decide (x6_1 < (l0.length : Int)) = true := decide_eq_true c13
                          clear c13
                          by_cases c14 : (rd l0 x6_1) < 128
                          · rw [if_pos c14] at H
                            have c14b0 : decide ((rd l0 x6_1) < 128) = true := decide_eq_true c14
                            clear c14
                            simp only [Option.some.injEq, Prod.mk.injEq] at H
                            obtain ⟨rfl, rfl, rfl⟩ := H
                            have p319 : 0 ≤ (x6_1 : Int) := of_decide_eq_true (by first | (with_reducible assumption) | assumption)
                            have q319 : x6_1 < (l0.length : Int) := of_decide_eq_true (by first | (with_reducible assumption) | assumption)
                            obtain ⟨ad319, e319, hx319_0⟩ := Kd.at_int HR0.out x6_1 p319 q319
                            obtain rfl : ad316 = ad319 := (by injection e319)
                            replace p319 := eq_true p319
                            replace q319 := eq_true q319
                            go_wp2
                            go_ret3
                            exact ⟨by first | rfl | (simp; done) | (simp [*]; done), by repeat (first | exact Drawn0.refl _ | apply Drawn0.step)⟩
                          · rw [if_neg c14] at H
                            have c14b0 : decide ((rd l0 x6_1) < 128) = false := decide_eq_false c14
                            clear c14
                            have H' := Aside0.mk H
                            clear H
                            have p319 : 0 ≤ (x6_1 : Int) := of_decide_eq_true (by first | (with_reducible assumption) | assumption)
                            have q319 : x6_1 < (l0.length : Int) := of_decide_eq_true (by first | (with_reducible assumption) | assumption)
                            obtain ⟨ad319, e319, hx319_0⟩ := Kd.at_int HR0.out x6_1 p319 q319
                            obtain rfl : ad316 = ad319 := (by injection e319)
                            replace p319 := eq_true p319
                            replace q319 := eq_true q319
                            go_wp2
                            go_roundg k3
                            case measure => have := HK1.out; have := HJ3.out; have := HK3.out; omega
                            case rel => exact ⟨(IntKind.u64.wrap (x5_1 + (IntKind.u64.wrap ((IntKind.u64.wrap (Int.tmod (rd l0 x6_1) 128)) * x8_3)))), (wrap64 (x6_1 + 1)), (by first | rfl | (simp; done) | (simp [*]; done)), (by first | rfl | (simp; done) | (simp [*]; done)), H', ⟨by have := HK1.out; have := HJ3.out; have := HK3.out; omega⟩, by repeat (first | exact Drawn0.refl _ | apply Drawn0.step)⟩
                        · rw [if_neg c13] at H
                          exact absurd H (by simp)
                      · rw [if_neg c12] at H
                        exact absurd H (by simp)
        · rw [if_neg c3] at H
          exact absurd H (by simp)
      · rw [if_neg c2] at H
        have c2b0 : decide (x6_1 < (l0.length : Int)) = false := decide_eq_false c2
        clear c2
        simp only [Option.some.injEq, Prod.mk.injEq] at H
        obtain ⟨rfl, rfl, rfl⟩ := H
        go_wp2
        go_ret3
        exact ⟨by first | rfl | (simp; done) | (simp [*]; done), by repeat (first | exact Drawn0.refl _ | apply Drawn0.step)⟩

end Go.Proofs.YtieddojplhmhgaaDoor.PTextsGets
