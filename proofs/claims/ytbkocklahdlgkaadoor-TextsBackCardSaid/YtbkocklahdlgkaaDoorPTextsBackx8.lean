/- WRITTEN BY A PROGRAM of this session (wip/tool: a turned copy of the printer), out of the translation: Lean functions with the answers of the Go functions, and the proofs that the Go code comes to them. -/
import Derived.Test.YtbkocklahdlgkaaDoorPTextsBackx0
import Derived.Test.YtbkocklahdlgkaaDoorPTextsBackx2
import Derived.Test.YtbkocklahdlgkaaDoorPTextsBackx3
import Derived.Test.YtbkocklahdlgkaaDoorPTextsBackx4
import Derived.Test.YtbkocklahdlgkaaDoorPTextsBackx5
import Derived.Test.YtbkocklahdlgkaaDoorPTextsBackx6
import Derived.Test.YtbkocklahdlgkaaDoorPTextsBackx7
namespace Go.Proofs.YtbkocklahdlgkaaDoor.PTextsBack
open Go.RowKit Go.Proofs.YtbkocklahdlgkaaDoorW.PrintWords Go.Proofs.YtbkocklahdlgkaaDoorW.PrintLast Go.Proofs.YtbkocklahdlgkaaDoorW.PrintMore
attribute [local go_sem] max2_int min2_int max_two min_two max_three min_three max_four min_four   -- for this text's walks alone
set_option linter.unusedVariables false
set_option linter.unusedSimpArgs false

/-! ### texts_Get: function 10 -/
mutual
def texts_Get.j0 : Nat → List Int → Int → Bool → Option (List ByteArray × Int)
  | 0, _, _, _ => none
  | k + 1, x0, x1, x22 => if x22 = true then (some (([] : List ByteArray), 1)) else ((num_NewReader.f x0).bind fun bt269 => ((texts_list.f k bt269.1 bt269.2.1 bt269.2.2.1 bt269.2.2.2 x1).bind fun bt274 => ((num_Reader_Fix.f k bt269.1 bt274.2.1 bt274.2.2.1 bt274.2.2.2 1).bind fun bt280 => ((texts_width.f (bt274.1.length : Int)).bind fun t284 => (if (wrap64 (bt280.1)) = t284 then (texts_Get.j1 k x1 bt274.1 (wrap64 (bt280.1)) bt269.1 bt280.2.1 bt280.2.2.1 bt280.2.2.2) else ((num_Reader_Fail.f bt269.1 bt280.2.1 bt280.2.2.1 bt280.2.2.2 4).bind fun bt285 => (texts_Get.j1 k x1 bt274.1 (wrap64 (bt280.1)) bt269.1 bt285.1 bt285.2.1 bt285.2.2)))))))
def texts_Get.j1 : Nat → Int → List ByteArray → Int → List Int → Int → Int → Int → Option (List ByteArray × Int)
  | 0, _, _, _, _, _, _, _ => none
  | k + 1, x1, x7, x8, x274000, x274001, x274002, x274003 => (num_Reader_Err.f x274000 x274001 x274002 x274003).bind fun bt288 => (if bt288.1 = 0 then ((num_Reader_Left.f x274000 bt288.2.2.1 bt288.2.2.2.1 bt288.2.2.2.2).bind fun bt293 => ((num_Reader_Take.f x274000 bt293.2.1 bt293.2.2.1 bt293.2.2.2 bt293.1).bind fun bt297 => ((bits_Unpack.f k bt297.1 x1 x8).bind fun bt303 => (if bt303.2 = 0 then (if 0 ≤ (x7.length : Int) then (if ((x7.length : Int) : Int).toNat ≤ 281474976710656 then (texts_Get.l0 k x7 (List.replicate ((x7.length : Int) : Int).toNat false) ([] : List ByteArray) bt303.1 (bt303.1.length : Int) 0) else (none)) else (none)) else (some (([] : List ByteArray), bt303.2)))))) else (some (([] : List ByteArray), bt288.1)))
def texts_Get.l0 : Nat → List ByteArray → List Bool → List ByteArray → List Int → Int → Int → Option (List ByteArray × Int)
  | 0, _, _, _, _, _, _ => none
  | k + 1, x7, x13, x14, x62, x63, x64 => if x64 < x63 then (if 0 ≤ x64 then (if x64 < (x62.length : Int) then (if (rd x62 x64) ≥ (IntKind.u64.wrap ((x7.length : Int))) then (some (([] : List ByteArray), 5)) else (if 0 ≤ (rd x62 x64) then (if (rd x62 x64) < (x13.length : Int) then (if (rd x62 x64) < (x7.length : Int) then (if x14.length < 8796093022208 then (texts_Get.l0 k x7 (x13.set ((rd x62 x64) : Int).toNat true) (x14 ++ [rdOf ByteArray.empty x7 (rd x62 x64)]) x62 x63 (wrap64 (x64 + 1))) else (none)) else (none)) else (none)) else (none))) else (none)) else (none)) else ((slices_Contains_bool_bool.f k x13 false).bind fun t316 => (if t316 = true then (some (([] : List ByteArray), 4)) else (some (x14, 0))))
end
def texts_Get.f (k : Nat) (l0 : List Int) (a1 : Int) : Option (List ByteArray × Int) := if a1 < 0 then (texts_Get.j0 k l0 a1 true) else (texts_Get.j0 k l0 a1 (decide (a1 > 65536)))
set_option maxHeartbeats 8000000 in
set_option maxRecDepth 100000 in
theorem texts_Get.calls (k : Nat) (A0 : Option Addr) (c0 : Nat) (l0 : List Int) (a1 : Int) (r1 : List ByteArray) (r2 : Int) (w : World) (hr0 : Kd.C (Kd.int .u8) w A0 l0.length l0) (hc0 : l0.length ≤ c0) (hG : HG w) (h : texts_Get.f k l0 a1 = some (r1, r2)) :
    Calls Tryd.prog 10 #[.slice A0 l0.length c0, .int .i64 a1] w fun e w' => ∃ v0_ : Value, e = .returned (.tuple #[v0_, .int .i64 r2]) ∧ Kd.R Kd.string 9 w' w.heap.size (fun _ => True) v0_ r1 ∧ Below w.heap.size w w' := by
  have HR0 := Aside0.mk hr0
  have HC0 := Aside0.mk hc0
  clear hr0 hc0
  have HB := Aside0.mk (Below.refl w.heap.size w)
  have H : (if a1 < 0 then (texts_Get.j0 k l0 a1 true) else (texts_Get.j0 k l0 a1 (decide (a1 > 65536)))) = some (r1, r2) := h
  clear h
  have HC3 := Aside0.mk H
  clear H
  go_enter Tryd.func10, Tryd.ntmps10
  go_upto_region 1 with (fail)
  go_cut [22] (fun v22 wc => ∃ (kq : Nat) (x22_2 : Bool), v22 = .bool x22_2 ∧ Aside0 (texts_Get.j0 kq l0 a1 x22_2 = some (r1, r2)) ∧ Aside0 (kq ≤ k) ∧ Aside0 (Below w.heap.size w wc))
  case first =>
    have H := HC3.out
    clear HC3
    by_cases c4 : a1 < 0
    · rw [if_pos c4] at H
      have c4b0 : decide (a1 < 0) = true := decide_eq_true c4
      clear c4
      (first | rw [c4b0] | (simp only [i64_w, i32_w]; rw [c4b0]) | skip)
      have H' := Aside0.mk H
      clear H
      go_wp2
      go_meet
      case rel => exact ⟨_, (true), (by first | rfl | (simp; done) | (simp [*]; done)), H', ⟨by first | omega | exact Nat.le_refl _⟩, ⟨by repeat (first | (with_reducible first | exact HB.out | apply below_alloc | apply pw_below_drewN | apply below_drew1) | exact HB.out)⟩⟩
    · rw [if_neg c4] at H
      have c4b0 : decide (a1 < 0) = false := decide_eq_false c4
      clear c4
      (first | rw [c4b0] | (simp only [i64_w, i32_w]; rw [c4b0]) | skip)
      have H' := Aside0.mk H
      clear H
      go_wp2
      go_meet
      case rel => exact ⟨_, (decide (a1 > 65536)), (by first | rfl | (simp; done) | (simp [*]; done)), H', ⟨by first | omega | exact Nat.le_refl _⟩, ⟨by repeat (first | (with_reducible first | exact HB.out | apply below_alloc | apply pw_below_drewN | apply below_drew1) | exact HB.out)⟩⟩
  case rest =>
    clear HC3
    try clear c1
    try clear p2
    try clear c4
    try clear c4b0
    obtain ⟨kq, x22_2, rfl, HA, HJ2, HB⟩ := hcut
    cases kq with
    | zero => exact absurd HA.out (by simp [texts_Get.j0])
    | succ kj2 =>
      have H := HA.out
      clear HA
      simp only [texts_Get.j0] at H
      by_cases c5 : x22_2 = true
      · subst c5
        have H1 : (some (([] : List ByteArray), 1)) = some (r1, r2) := by rw [if_pos rfl] at H; exact H
        clear H
        have H := H1
        clear H1
        simp only [Option.some.injEq, Prod.mk.injEq] at H
        obtain ⟨rfl, rfl⟩ := H
        go_wp2
        go_ret2
        exact ⟨_, by first | rfl | (simp [errW_none, errW_some] <;> rfl) | (simp [*, errW_none, errW_some] <;> rfl), by first | exact Kd.R_nil _ _ _ _ _ | exact Kd.N_nil _ _ _ _ _ | exact Kd.V_nil _ _ _ _ _ | exact Kd.Q_nil _ _ _ _ _ | exact Kd.S_nil _ _ _ _ _, by repeat (first | (with_reducible first | exact HB.out | apply below_alloc | apply pw_below_drewN | apply below_drew1) | exact HB.out)⟩
      · replace c5 := Bool.eq_false_iff.mpr c5
        subst c5
        have H1 : ((num_NewReader.f l0).bind fun bt269 => ((texts_list.f kj2 bt269.1 bt269.2.1 bt269.2.2.1 bt269.2.2.2 a1).bind fun bt274 => ((num_Reader_Fix.f kj2 bt269.1 bt274.2.1 bt274.2.2.1 bt274.2.2.2 1).bind fun bt280 => ((texts_width.f (bt274.1.length : Int)).bind fun t284 => (if (wrap64 (bt280.1)) = t284 then (texts_Get.j1 kj2 a1 bt274.1 (wrap64 (bt280.1)) bt269.1 bt280.2.1 bt280.2.2.1 bt280.2.2.2) else ((num_Reader_Fail.f bt269.1 bt280.2.1 bt280.2.2.1 bt280.2.2.2 4).bind fun bt285 => (texts_Get.j1 kj2 a1 bt274.1 (wrap64 (bt280.1)) bt269.1 bt285.1 bt285.2.1 bt285.2.2))))))) = some (r1, r2) := by rw [if_neg (show ¬ (false = true) by decide)] at H; exact H
        clear H
        have H := H1
        clear H1
        replace H := Option.bind_eq_some_iff.mp H
        obtain ⟨⟨t269, t270, t271, t272⟩, A60, H⟩ := H
        replace H : ((texts_list.f kj2 t269 t270 t271 t272 a1).bind fun bt274 => ((num_Reader_Fix.f kj2 t269 bt274.2.1 bt274.2.2.1 bt274.2.2.2 1).bind fun bt280 => ((texts_width.f (bt274.1.length : Int)).bind fun t284 => (if (wrap64 (bt280.1)) = t284 then (texts_Get.j1 kj2 a1 bt274.1 (wrap64 (bt280.1)) t269 bt280.2.1 bt280.2.2.1 bt280.2.2.2) else ((num_Reader_Fail.f t269 bt280.2.1 bt280.2.2.1 bt280.2.2.2 4).bind fun bt285 => (texts_Get.j1 kj2 a1 bt274.1 (wrap64 (bt280.1)) t269 bt285.1 bt285.2.1 bt285.2.2)))))) = some (r1, r2) := H
        have A6 := Aside0.mk A60
        clear A60
        replace H := Option.bind_eq_some_iff.mp H
        obtain ⟨⟨t274, t277, t278, t279⟩, A70, H⟩ := H
        replace H : ((num_Reader_Fix.f kj2 t269 t277 t278 t279 1).bind fun bt280 => ((texts_width.f (t274.length : Int)).bind fun t284 => (if (wrap64 (bt280.1)) = t284 then (texts_Get.j1 kj2 a1 t274 (wrap64 (bt280.1)) t269 bt280.2.1 bt280.2.2.1 bt280.2.2.2) else ((num_Reader_Fail.f t269 bt280.2.1 bt280.2.2.1 bt280.2.2.2 4).bind fun bt285 => (texts_Get.j1 kj2 a1 t274 (wrap64 (bt280.1)) t269 bt285.1 bt285.2.1 bt285.2.2))))) = some (r1, r2) := H
        have A7 := Aside0.mk A70
        clear A70
        replace H := Option.bind_eq_some_iff.mp H
        obtain ⟨⟨t280, t281, t282, t283⟩, A80, H⟩ := H
        replace H : ((texts_width.f (t274.length : Int)).bind fun t284 => (if (wrap64 (t280)) = t284 then (texts_Get.j1 kj2 a1 t274 (wrap64 (t280)) t269 t281 t282 t283) else ((num_Reader_Fail.f t269 t281 t282 t283 4).bind fun bt285 => (texts_Get.j1 kj2 a1 t274 (wrap64 (t280)) t269 bt285.1 bt285.2.1 bt285.2.2)))) = some (r1, r2) := H
        have A8 := Aside0.mk A80
        clear A80
        replace H := Option.bind_eq_some_iff.mp H
        obtain ⟨t284, A90, H⟩ := H
        replace H : (if (wrap64 (t280)) = t284 then (texts_Get.j1 kj2 a1 t274 (wrap64 (t280)) t269 t281 t282 t283) else ((num_Reader_Fail.f t269 t281 t282 t283 4).bind fun bt285 => (texts_Get.j1 kj2 a1 t274 (wrap64 (t280)) t269 bt285.1 bt285.2.1 bt285.2.2))) = some (r1, r2) := H
        have A9 := Aside0.mk A90
        clear A90
        have HC10 := Aside0.mk H
        clear H
        go_upto_if 35 with (first | ((with_reducible refine gate_callee (f := 31) rfl ?_); refine goesL_ (some 24) rfl rfl Tryd.func31 (by kernel_rfl) rfl #[.slice A0 l0.length c0] rfl (by (try simp only [List.map_toArray, List.map_cons, List.map_nil]); first | done | rfl | (simp only [List.length_drop, List.length_take]; rfl)) ?_; (with_reducible refine (num_NewReader.calls _ _ l0 t269 t270 t271 t272 w _ ?side1 ?side2 ?side3 hG A6.out).mono ?_); (case side1 => repeat (first | (with_reducible first | exact HB.out | apply below_alloc | apply pw_below_drewN | apply below_drew1) | exact HB.out)); (case side2 => repeat (first | exact (Kd.C_below HR0.out HB.out) | (with_reducible refine Kd.C_alloc ?_ _) | (with_reducible refine Kd.C_drewN ?_ _) | (with_reducible refine Kd.C_drew ?_))); (case side3 => exact HC0.out); rintro e w11 ⟨g273, rfl, hi, hb, hb2⟩; refine ⟨_, rfl, ?_⟩; have n0_ := Aside0.mk (hb); have n1_ := Aside0.mk (hi); clear HB; have HB := n0_; have HI273 := n1_; clear n0_ n1_; (try clear hb); (try clear hb2); (try clear hk); (try clear hi)) | ((with_reducible refine gate_callee (f := 32) rfl ?_); refine goesL_ (some 27) rfl rfl Tryd.func32 (by kernel_rfl) rfl #[.pointer (some ⟨g273, 0, none⟩), .int .i64 a1] rfl (by (try simp only [List.map_toArray, List.map_cons, List.map_nil]); first | done | rfl | (simp only [List.length_drop, List.length_take]; rfl)) ?_; (with_reducible refine (texts_list.calls kj2 g273 t269 t270 t271 t272 a1 t274 t277 t278 t279 w _ ?side1 ?side2 A7.out).mono ?_); (case side1 => repeat (first | (with_reducible first | exact HI273.out | apply IsS127.alloc | apply IsS127.drewN | apply IsS127.drew | apply IsS127.set_1 | apply IsS127.set_2 | apply IsS127.set_3) | exact HI273.out)); (case side2 => repeat (first | (with_reducible first | exact HB.out | apply below_alloc | apply pw_below_drewN | apply below_drew1 | refine below_set ?_ (IsS127.ge HI273.out)) | exact HB.out)); rintro e w12 ⟨v275, rfl, ho0, hi, hb, hk⟩; refine ⟨_, rfl, ?_⟩; have n0_ := Aside0.mk (Kd.R_lower ho0 (below_size (by repeat (first | (with_reducible first | exact HB.out | apply below_alloc | apply pw_below_drewN | apply below_drew1 | refine below_set ?_ (IsS127.ge HI273.out)) | exact HB.out)))); have n1_ := Aside0.mk (hb); have n2_ := Aside0.mk (hi); clear HB; clear HI273; have HO276 := n0_; have HB := n1_; have HI273 := n2_; clear n0_ n1_ n2_; (try clear hb); (try clear hb2); (try clear hk); (try clear hi); (try clear ho0)) | ((with_reducible refine gate_callee (f := 33) rfl ?_); refine goesL_ (some 29) rfl rfl Tryd.func33 (by kernel_rfl) rfl #[.pointer (some ⟨g273, 0, none⟩), .int .i64 1] rfl (by (try simp only [List.map_toArray, List.map_cons, List.map_nil]); first | done | rfl | (simp only [List.length_drop, List.length_take]; rfl)) ?_; (with_reducible refine (num_Reader_Fix.calls kj2 g273 t269 t277 t278 t279 1 t280 t281 t282 t283 w _ ?side1 ?side2 A8.out).mono ?_); (case side1 => repeat (first | (with_reducible first | exact HI273.out | apply IsS127.alloc | apply IsS127.drewN | apply IsS127.drew | apply IsS127.set_1 | apply IsS127.set_2 | apply IsS127.set_3) | exact HI273.out)); (case side2 => repeat (first | (with_reducible first | exact HB.out | apply below_alloc | apply pw_below_drewN | apply below_drew1 | refine below_set ?_ (IsS127.ge HI273.out)) | exact HB.out)); rintro e w13 ⟨rfl, hi, hb, hk⟩; refine ⟨_, rfl, ?_⟩; have n0_ := Aside0.mk (Kd.R_mono (Kd.R_keep (IsS127.apart (show IsS127 w _ g273 t269 t277 t278 t279 from by repeat (first | (with_reducible first | exact HI273.out | apply IsS127.alloc | apply IsS127.drewN | apply IsS127.drew | apply IsS127.set_1 | apply IsS127.set_2 | apply IsS127.set_3) | exact HI273.out)) (by (with_reducible repeat (first | apply Kd.R_alloc | apply Kd.R_drewN | apply Kd.R_drew)); exact HO276.out) (by decide)) hk (fun _ h => h.2)) (fun _ h => h.1)); have n1_ := Aside0.mk (hb); have n2_ := Aside0.mk (hi); clear HO276; clear HB; clear HI273; have HO276 := n0_; have HB := n1_; have HI273 := n2_; clear n0_ n1_ n2_; (try clear hb); (try clear hb2); (try clear hk); (try clear hi); obtain ⟨Ao14, co14, eo14⟩ := Kd.R_slice HO276.out; subst eo14) | ((with_reducible refine gate_callee (f := 29) rfl ?_); refine goesL_ (some 34) rfl rfl Tryd.func29 (by kernel_rfl) rfl #[.int .i64 (t274.length : Int)] rfl (by (try simp only [List.map_toArray, List.map_cons, List.map_nil]); first | done | rfl | (simp only [List.length_drop, List.length_take]; rfl)) ?_; (with_reducible refine (texts_width.calls (t274.length : Int) t284 _ A9.out).mono ?_); rintro e w15 ⟨rfl, hb⟩; refine ⟨_, rfl, ?_⟩; have n0_ := Aside0.mk (Kd.R_below (by (with_reducible repeat (first | apply Kd.R_alloc | apply Kd.R_drewN | apply Kd.R_drew)); exact HO276.out) hb); have n1_ := Aside0.mk (IsS127.below (by repeat (first | (with_reducible first | exact HI273.out | apply IsS127.alloc | apply IsS127.drewN | apply IsS127.drew | apply IsS127.set_1 | apply IsS127.set_2 | apply IsS127.set_3) | exact HI273.out)) hb); have n2_ := Aside0.mk (below_step (by repeat (first | (with_reducible first | exact HB.out | apply below_alloc | apply pw_below_drewN | apply below_drew1 | refine below_set ?_ (IsS127.ge HI273.out)) | exact HB.out)) hb); clear HO276; clear HI273; clear HB; have HO276 := n0_; have HI273 := n1_; have HB := n2_; clear n0_ n1_ n2_; (try clear hb); (try clear hb2); (try clear hk); (try clear hi)))
        (try simp only [Act.put, List.setIfInBounds_toArray, List.set_cons_zero, List.set_cons_succ])
        go_cut [] (fun wc => ∃ (kq : Nat) (x274001_9 : Int) (x274002_9 : Int) (x274003_9 : Int), Aside0 (texts_Get.j1 kq a1 t274 (wrap64 (t280)) t269 x274001_9 x274002_9 x274003_9 = some (r1, r2)) ∧ Aside0 (kq ≤ kj2) ∧ Aside0 (Kd.R Kd.string 9 wc w.heap.size (fun _ => True) (.slice Ao14 t274.length co14) t274) ∧ Aside0 (IsS127 w wc g273 t269 x274001_9 x274002_9 x274003_9) ∧ Aside0 (Below w.heap.size w wc))
        case first =>
          have H := HC10.out
          clear HC10
          by_cases c16 : (wrap64 (t280)) = t284
          · rw [if_pos c16] at H
            have c16b0 : ((wrap64 (t280)) == t284) = true := beq_iff_eq.mpr c16
            have c16b1 : ((wrap64 (t280)) != t284) = false := bne_eq_false_iff_eq.mpr c16
            clear c16
            (first | rw [c16b0] | (simp only [i64_w, i32_w]; rw [c16b0]) | skip)
            have H' := Aside0.mk H
            clear H
            go_wp2
            go_meet
            case rel => exact ⟨_, (t281), (t282), (t283), H', ⟨by have := HJ2.out; first | omega | exact Nat.le_refl _⟩, ⟨by (with_reducible repeat (first | apply Kd.R_alloc | apply Kd.R_drewN | apply Kd.R_drew)); exact HO276.out⟩, ⟨by repeat (first | (with_reducible first | exact HI273.out | apply IsS127.alloc | apply IsS127.drewN | apply IsS127.drew | apply IsS127.set_1 | apply IsS127.set_2 | apply IsS127.set_3) | exact HI273.out)⟩, ⟨by repeat (first | (with_reducible first | exact HB.out | apply below_alloc | apply pw_below_drewN | apply below_drew1 | refine below_set ?_ (IsS127.ge HI273.out)) | exact HB.out)⟩⟩
          · rw [if_neg c16] at H
            have c16b0 : ((wrap64 (t280)) == t284) = false := beq_eq_false_iff_ne.mpr c16
            have c16b1 : ((wrap64 (t280)) != t284) = true := bne_iff_ne.mpr c16
            (first | rw [c16b0] | (simp only [i64_w, i32_w]; rw [c16b0]) | skip)
            replace H := Option.bind_eq_some_iff.mp H
            obtain ⟨⟨t285, t286, t287⟩, A170, H⟩ := H
            replace H : (texts_Get.j1 kj2 a1 t274 (wrap64 (t280)) t269 t285 t286 t287) = some (r1, r2) := H
            have A17 := Aside0.mk A170
            clear A170
            have H' := Aside0.mk H
            clear H
            go_wp2_with (first | ((with_reducible refine gate_callee (f := 34) rfl ?_); refine goesL_ (some 37) rfl rfl Tryd.func34 (by kernel_rfl) rfl #[.pointer (some ⟨g273, 0, none⟩), .int .i64 4] rfl (by (try simp only [List.map_toArray, List.map_cons, List.map_nil]); first | done | rfl | (simp only [List.length_drop, List.length_take]; rfl)) ?_; (with_reducible refine (num_Reader_Fail.calls g273 t269 t281 t282 t283 4 t285 t286 t287 w _ ?side1 ?side2 A17.out).mono ?_); (case side1 => repeat (first | (with_reducible first | exact HI273.out | apply IsS127.alloc | apply IsS127.drewN | apply IsS127.drew | apply IsS127.set_1 | apply IsS127.set_2 | apply IsS127.set_3) | exact HI273.out)); (case side2 => repeat (first | (with_reducible first | exact HB.out | apply below_alloc | apply pw_below_drewN | apply below_drew1 | refine below_set ?_ (IsS127.ge HI273.out)) | exact HB.out)); rintro e w18 ⟨rfl, hi, hb, hk⟩; refine ⟨_, rfl, ?_⟩; have n0_ := Aside0.mk (Kd.R_mono (Kd.R_keep (IsS127.apart (show IsS127 w _ g273 t269 t281 t282 t283 from by repeat (first | (with_reducible first | exact HI273.out | apply IsS127.alloc | apply IsS127.drewN | apply IsS127.drew | apply IsS127.set_1 | apply IsS127.set_2 | apply IsS127.set_3) | exact HI273.out)) (by (with_reducible repeat (first | apply Kd.R_alloc | apply Kd.R_drewN | apply Kd.R_drew)); exact HO276.out) (by decide)) hk (fun _ h => h.2)) (fun _ h => h.1)); have n1_ := Aside0.mk (hb); have n2_ := Aside0.mk (hi); clear HO276; clear HB; clear HI273; have HO276 := n0_; have HB := n1_; have HI273 := n2_; clear n0_ n1_ n2_; (try clear hb); (try clear hb2); (try clear hk); (try clear hi)))
            go_meet
            case rel => exact ⟨_, (t285), (t286), (t287), H', ⟨by have := HJ2.out; first | omega | exact Nat.le_refl _⟩, ⟨by (with_reducible repeat (first | apply Kd.R_alloc | apply Kd.R_drewN | apply Kd.R_drew)); exact HO276.out⟩, ⟨by repeat (first | (with_reducible first | exact HI273.out | apply IsS127.alloc | apply IsS127.drewN | apply IsS127.drew | apply IsS127.set_1 | apply IsS127.set_2 | apply IsS127.set_3) | exact HI273.out)⟩, ⟨by repeat (first | (with_reducible first | exact HB.out | apply below_alloc | apply pw_below_drewN | apply below_drew1 | refine below_set ?_ (IsS127.ge HI273.out)) | exact HB.out)⟩⟩
        case rest =>
          clear HC10
          try clear c1
          try clear c2
          try clear p2
          try clear c3
          try clear c4
          try clear c4b0
          try clear c5
          try clear p6
          try clear c10
          try clear c16
          try clear c16b0
          try clear c16b1
          try clear p2
          obtain ⟨kq, x274001_9, x274002_9, x274003_9, HA, HJ9, HO_7, HI273, HB⟩ := hcut
          cases kq with
          | zero => exact absurd HA.out (by simp [texts_Get.j1])
          | succ kj9 =>
            have H := HA.out
            clear HA
            simp only [texts_Get.j1] at H
            replace H := Option.bind_eq_some_iff.mp H
            obtain ⟨⟨t288, t289, t290, t291, t292⟩, A190, H⟩ := H
            replace H : (if t288 = 0 then ((num_Reader_Left.f t269 t290 t291 t292).bind fun bt293 => ((num_Reader_Take.f t269 bt293.2.1 bt293.2.2.1 bt293.2.2.2 bt293.1).bind fun bt297 => ((bits_Unpack.f kj9 bt297.1 a1 (wrap64 (t280))).bind fun bt303 => (if bt303.2 = 0 then (if 0 ≤ (t274.length : Int) then (if ((t274.length : Int) : Int).toNat ≤ 281474976710656 then (texts_Get.l0 kj9 t274 (List.replicate ((t274.length : Int) : Int).toNat false) ([] : List ByteArray) bt303.1 (bt303.1.length : Int) 0) else (none)) else (none)) else (some (([] : List ByteArray), bt303.2)))))) else (some (([] : List ByteArray), t288))) = some (r1, r2) := H
            have A19 := Aside0.mk A190
            clear A190
            by_cases c20 : t288 = 0
            · rw [if_pos c20] at H
              have c20b0 : (t288 == 0) = true := beq_iff_eq.mpr c20
              have c20b1 : (t288 != 0) = false := bne_eq_false_iff_eq.mpr c20
              clear c20
              replace H := Option.bind_eq_some_iff.mp H
              obtain ⟨⟨t293, t294, t295, t296⟩, A210, H⟩ := H
              replace H : ((num_Reader_Take.f t269 t294 t295 t296 t293).bind fun bt297 => ((bits_Unpack.f kj9 bt297.1 a1 (wrap64 (t280))).bind fun bt303 => (if bt303.2 = 0 then (if 0 ≤ (t274.length : Int) then (if ((t274.length : Int) : Int).toNat ≤ 281474976710656 then (texts_Get.l0 kj9 t274 (List.replicate ((t274.length : Int) : Int).toNat false) ([] : List ByteArray) bt303.1 (bt303.1.length : Int) 0) else (none)) else (none)) else (some (([] : List ByteArray), bt303.2))))) = some (r1, r2) := H
              have A21 := Aside0.mk A210
              clear A210
              replace H := Option.bind_eq_some_iff.mp H
              obtain ⟨⟨t297, t300, t301, t302⟩, A220, H⟩ := H
              replace H : ((bits_Unpack.f kj9 t297 a1 (wrap64 (t280))).bind fun bt303 => (if bt303.2 = 0 then (if 0 ≤ (t274.length : Int) then (if ((t274.length : Int) : Int).toNat ≤ 281474976710656 then (texts_Get.l0 kj9 t274 (List.replicate ((t274.length : Int) : Int).toNat false) ([] : List ByteArray) bt303.1 (bt303.1.length : Int) 0) else (none)) else (none)) else (some (([] : List ByteArray), bt303.2)))) = some (r1, r2) := H
              have A22 := Aside0.mk A220
              clear A220
              replace H := Option.bind_eq_some_iff.mp H
              obtain ⟨⟨t303, t304⟩, A230, H⟩ := H
              replace H : (if t304 = 0 then (if 0 ≤ (t274.length : Int) then (if ((t274.length : Int) : Int).toNat ≤ 281474976710656 then (texts_Get.l0 kj9 t274 (List.replicate ((t274.length : Int) : Int).toNat false) ([] : List ByteArray) t303 (t303.length : Int) 0) else (none)) else (none)) else (some (([] : List ByteArray), t304))) = some (r1, r2) := H
              have A23 := Aside0.mk A230
              clear A230
              by_cases c24 : t304 = 0
              · rw [if_pos c24] at H
                have c24b0 : (t304 == 0) = true := beq_iff_eq.mpr c24
                have c24b1 : (t304 != 0) = false := bne_eq_false_iff_eq.mpr c24
                clear c24
                by_cases c25 : 0 ≤ (t274.length : Int)
                · rw [if_pos c25] at H
                  have c25b0 := eq_true c25
                  have c25b1 : decide (0 ≤ (t274.length : Int)) = true := decide_eq_true c25
                  clear c25
                  by_cases c26 : ((t274.length : Int) : Int).toNat ≤ 281474976710656
                  · rw [if_pos c26] at H
                    have c26b0 := eq_true c26
                    have c26b1 : decide (((t274.length : Int) : Int).toNat ≤ 281474976710656) = true := decide_eq_true c26
                    clear c26
                    obtain ⟨y307, hy307⟩ : ∃ y_ : List Bool, y_ = (List.replicate ((t274.length : Int) : Int).toNat false) := ⟨_, rfl⟩
                    replace H : (texts_Get.l0 kj9 t274 y307 ([] : List ByteArray) t303 (t303.length : Int) 0) = some (r1, r2) := by first | (rw [hy307]; with_reducible exact H) | (have H2_ := (Option.bind_some _ _).symm.trans H; rw [hy307]; with_reducible exact H2_) | (have H2_ := (Option.bind_some _ _).symm.trans H; with_reducible exact H2_) | with_reducible exact H | (rw [hy307]; exact H) | exact H
                    have Ny307 := Aside0.mk hy307
                    clear hy307
                    have H' := Aside0.mk H
                    clear H
                    go_wp2_with (first | ((with_reducible refine gate_callee (f := 35) rfl ?_); refine goesL_ (some 40) rfl rfl Tryd.func35 (by kernel_rfl) rfl #[.pointer (some ⟨g273, 0, none⟩)] rfl (by (try simp only [List.map_toArray, List.map_cons, List.map_nil]); first | done | rfl | (simp only [List.length_drop, List.length_take]; rfl)) ?_; (with_reducible refine (num_Reader_Err.calls g273 t269 x274001_9 x274002_9 x274003_9 t288 t289 t290 t291 t292 w _ ?side1 ?side2 A19.out).mono ?_); (case side1 => repeat (first | (with_reducible first | exact HI273.out | apply IsS127.alloc | apply IsS127.drewN | apply IsS127.drew | apply IsS127.set_1 | apply IsS127.set_2 | apply IsS127.set_3) | exact HI273.out)); (case side2 => repeat (first | (with_reducible first | exact HB.out | apply below_alloc | apply pw_below_drewN | apply below_drew1 | refine below_set ?_ (IsS127.ge HI273.out)) | exact HB.out)); rintro e w27 ⟨rfl, hi, hb, hk⟩; refine ⟨_, rfl, ?_⟩; have n0_ := Aside0.mk (Kd.R_mono (Kd.R_keep (IsS127.apart (show IsS127 w _ g273 t269 x274001_9 x274002_9 x274003_9 from by repeat (first | (with_reducible first | exact HI273.out | apply IsS127.alloc | apply IsS127.drewN | apply IsS127.drew | apply IsS127.set_1 | apply IsS127.set_2 | apply IsS127.set_3) | exact HI273.out)) (by (with_reducible repeat (first | apply Kd.R_alloc | apply Kd.R_drewN | apply Kd.R_drew)); exact HO_7.out) (by decide)) hk (fun _ h => h.2)) (fun _ h => h.1)); have n1_ := Aside0.mk (hb); have n2_ := Aside0.mk (hi); clear HO_7; clear HB; clear HI273; have HO_7 := n0_; have HB := n1_; have HI273 := n2_; clear n0_ n1_ n2_; (try clear hb); (try clear hb2); (try clear hk); (try clear hi)) | ((with_reducible refine gate_callee (f := 38) rfl ?_); refine goesL_ (some 49) rfl rfl Tryd.func38 (by kernel_rfl) rfl #[.pointer (some ⟨g273, 0, none⟩)] rfl (by (try simp only [List.map_toArray, List.map_cons, List.map_nil]); first | done | rfl | (simp only [List.length_drop, List.length_take]; rfl)) ?_; (with_reducible refine (num_Reader_Left.calls g273 t269 t290 t291 t292 t293 t294 t295 t296 w _ ?side1 ?side2 A21.out).mono ?_); (case side1 => repeat (first | (with_reducible first | exact HI273.out | apply IsS127.alloc | apply IsS127.drewN | apply IsS127.drew | apply IsS127.set_1 | apply IsS127.set_2 | apply IsS127.set_3) | exact HI273.out)); (case side2 => repeat (first | (with_reducible first | exact HB.out | apply below_alloc | apply pw_below_drewN | apply below_drew1 | refine below_set ?_ (IsS127.ge HI273.out)) | exact HB.out)); rintro e w28 ⟨rfl, hi, hb, hk⟩; refine ⟨_, rfl, ?_⟩; have n0_ := Aside0.mk (Kd.R_mono (Kd.R_keep (IsS127.apart (show IsS127 w _ g273 t269 t290 t291 t292 from by repeat (first | (with_reducible first | exact HI273.out | apply IsS127.alloc | apply IsS127.drewN | apply IsS127.drew | apply IsS127.set_1 | apply IsS127.set_2 | apply IsS127.set_3) | exact HI273.out)) (by (with_reducible repeat (first | apply Kd.R_alloc | apply Kd.R_drewN | apply Kd.R_drew)); exact HO_7.out) (by decide)) hk (fun _ h => h.2)) (fun _ h => h.1)); have n1_ := Aside0.mk (hb); have n2_ := Aside0.mk (hi); clear HO_7; clear HB; clear HI273; have HO_7 := n0_; have HB := n1_; have HI273 := n2_; clear n0_ n1_ n2_; (try clear hb); (try clear hb2); (try clear hk); (try clear hi)) | ((with_reducible refine gate_callee (f := 37) rfl ?_); refine goesL_ (some 50) rfl rfl Tryd.func37 (by kernel_rfl) rfl #[.pointer (some ⟨g273, 0, none⟩), .int .i64 t293] rfl (by (try simp only [List.map_toArray, List.map_cons, List.map_nil]); first | done | rfl | (simp only [List.length_drop, List.length_take]; rfl)) ?_; (with_reducible refine (num_Reader_Take.calls g273 t269 t294 t295 t296 t293 t297 t300 t301 t302 w _ ?side1 ?side2 A22.out).mono ?_); (case side1 => repeat (first | (with_reducible first | exact HI273.out | apply IsS127.alloc | apply IsS127.drewN | apply IsS127.drew | apply IsS127.set_1 | apply IsS127.set_2 | apply IsS127.set_3) | exact HI273.out)); (case side2 => repeat (first | (with_reducible first | exact HB.out | apply below_alloc | apply pw_below_drewN | apply below_drew1 | refine below_set ?_ (IsS127.ge HI273.out)) | exact HB.out)); rintro e w29 ⟨v298, rfl, ho0, hi, hb, hk⟩; refine ⟨_, rfl, ?_⟩; have n0_ := Aside0.mk (Kd.R_mono (Kd.R_keep (IsS127.apart (show IsS127 w _ g273 t269 t294 t295 t296 from by repeat (first | (with_reducible first | exact HI273.out | apply IsS127.alloc | apply IsS127.drewN | apply IsS127.drew | apply IsS127.set_1 | apply IsS127.set_2 | apply IsS127.set_3) | exact HI273.out)) (by (with_reducible repeat (first | apply Kd.R_alloc | apply Kd.R_drewN | apply Kd.R_drew)); exact HO_7.out) (by decide)) hk (fun _ h => h.2)) (fun _ h => h.1)); have n1_ := Aside0.mk (Kd.R_lower ho0 (below_size (by repeat (first | (with_reducible first | exact HB.out | apply below_alloc | apply pw_below_drewN | apply below_drew1 | refine below_set ?_ (IsS127.ge HI273.out)) | exact HB.out)))); have n2_ := Aside0.mk (hb); have n3_ := Aside0.mk (hi); clear HO_7; clear HB; clear HI273; have HO_7 := n0_; have HO299 := n1_; have HB := n2_; have HI273 := n3_; clear n0_ n1_ n2_ n3_; (try clear hb); (try clear hb2); (try clear hk); (try clear hi); (try clear ho0); obtain ⟨Ao30, co30, eo30⟩ := Kd.R_slice HO299.out; subst eo30) | ((with_reducible refine gate_callee (f := 36) rfl ?_); refine goesL_ (some 53) rfl rfl Tryd.func36 (by kernel_rfl) rfl #[.slice Ao30 t297.length co30, .int .i64 a1, .int .i64 (wrap64 (t280))] rfl (by (try simp only [List.map_toArray, List.map_cons, List.map_nil]); first | done | rfl | (simp only [List.length_drop, List.length_take]; rfl)) ?_; (with_reducible refine (bits_Unpack.calls kj9 _ _ t297 a1 (wrap64 (t280)) t303 t304 _ ?side1 ?side2 A23.out).mono ?_); (case side1 => repeat (first | exact (Kd.R_reads' HO299.out).2.2 | (with_reducible refine Kd.C_alloc ?_ _) | (with_reducible refine Kd.C_drewN ?_ _) | (with_reducible refine Kd.C_drew ?_))); (case side2 => exact (Kd.R_reads' HO299.out).2.1); rintro e w31 ⟨v305, rfl, ho0, hb⟩; refine ⟨_, rfl, ?_⟩; have n0_ := Aside0.mk (Kd.R_below (by (with_reducible repeat (first | apply Kd.R_alloc | apply Kd.R_drewN | apply Kd.R_drew)); exact HO_7.out) hb); have n1_ := Aside0.mk (Kd.R_below (by (with_reducible repeat (first | apply Kd.R_alloc | apply Kd.R_drewN | apply Kd.R_drew)); exact HO299.out) hb); have n2_ := Aside0.mk (Kd.R_lower ho0 (below_size (by repeat (first | (with_reducible first | exact HB.out | apply below_alloc | apply pw_below_drewN | apply below_drew1 | refine below_set ?_ (IsS127.ge HI273.out)) | exact HB.out)))); have n3_ := Aside0.mk (IsS127.below (by repeat (first | (with_reducible first | exact HI273.out | apply IsS127.alloc | apply IsS127.drewN | apply IsS127.drew | apply IsS127.set_1 | apply IsS127.set_2 | apply IsS127.set_3) | exact HI273.out)) hb); have n4_ := Aside0.mk (below_step (by repeat (first | (with_reducible first | exact HB.out | apply below_alloc | apply pw_below_drewN | apply below_drew1 | refine below_set ?_ (IsS127.ge HI273.out)) | exact HB.out)) hb); clear HO_7; clear HO299; clear HI273; clear HB; have HO_7 := n0_; have HO299 := n1_; have HO306 := n2_; have HI273 := n3_; have HB := n4_; clear n0_ n1_ n2_ n3_ n4_; (try clear hb); (try clear hb2); (try clear hk); (try clear hi); (try clear ho0)) | ((with_reducible refine gate_dst (N := 61) rfl ?_); refine Kd.R_make Kd.bool _ 4 rfl (N := 61) rfl 87 _ _ rfl (t274.length : Int) rfl rfl Tryd.underlying87 (.bool false) 1 info4 rfl (by decide) (by omega) false (ok := fun _ => True) (okp := fun _ => True) rfl (fun _ hk => hk) trivial (of_decide_eq_true (by first | (with_reducible assumption) | assumption)) (Nat.le_trans (Nat.mul_le_mul_right _ (of_decide_eq_true (by first | (with_reducible assumption) | assumption) : (t274.length : Int).toNat ≤ 281474976710656)) (by omega)) (Below.refl _ _) (Nat.le_refl _) ?_; intro v308 w32 ho33 hb hg_ hnew_; clear hg_ hnew_; (first | rw [← Ny307.out] at ho33 | (simp only [Int.reduceToNat] at ho33; rw [← Ny307.out] at ho33)); have n0_ := Aside0.mk (Kd.R_below (by (with_reducible repeat (first | apply Kd.R_alloc | apply Kd.R_drewN | apply Kd.R_drew)); exact HO_7.out) hb); have n1_ := Aside0.mk (Kd.R_below (by (with_reducible repeat (first | apply Kd.R_alloc | apply Kd.R_drewN | apply Kd.R_drew)); exact HO299.out) hb); have n2_ := Aside0.mk (Kd.R_below (by (with_reducible repeat (first | apply Kd.R_alloc | apply Kd.R_drewN | apply Kd.R_drew)); exact HO306.out) hb); have n3_ := Aside0.mk (Kd.R_lower ho33 (below_size (by repeat (first | (with_reducible first | exact HB.out | apply below_alloc | apply pw_below_drewN | apply below_drew1 | refine below_set ?_ (IsS127.ge HI273.out)) | exact HB.out)))); have n4_ := Aside0.mk (IsS127.below (by repeat (first | (with_reducible first | exact HI273.out | apply IsS127.alloc | apply IsS127.drewN | apply IsS127.drew | apply IsS127.set_1 | apply IsS127.set_2 | apply IsS127.set_3) | exact HI273.out)) hb); have n5_ := Aside0.mk (below_step (by repeat (first | (with_reducible first | exact HB.out | apply below_alloc | apply pw_below_drewN | apply below_drew1 | refine below_set ?_ (IsS127.ge HI273.out)) | exact HB.out)) hb); clear HO_7; clear HO299; clear HO306; clear HI273; clear HB; have HO_7 := n0_; have HO299 := n1_; have HO306 := n2_; have HO309 := n3_; have HI273 := n4_; have HB := n5_; clear n0_ n1_ n2_ n3_ n4_ n5_; clear hb ho33; obtain ⟨Ao34, co34, eo34⟩ := Kd.R_slice HO306.out; subst eo34))
                    go_loopg [14, 64] kj9 (fun kq v14 v64 w' => ∃ (x13_3 : List Bool) (x14_3 : List ByteArray) (x64_3 : Int), v64 = .int .i64 x64_3 ∧ Aside0 (texts_Get.l0 kq t274 x13_3 x14_3 t303 (t303.length : Int) x64_3 = some (r1, r2)) ∧ Aside0 (kq ≤ kj9) ∧ Aside0 (Kd.R Kd.string 9 w' w.heap.size (fun k_ => some k_ ≠ (v14 : Value).ownBlock) (.slice Ao14 t274.length co14) t274) ∧ Aside0 (Kd.R Kd.bool 4 w' w.heap.size (fun _ => True) v308 x13_3) ∧ Aside0 (Kd.R Kd.string 9 w' w.heap.size (fun k_ => some k_ ≠ ((.slice Ao14 t274.length co14) : Value).ownBlock) v14 x14_3) ∧ Aside0 (Kd.R (Kd.int .u64) 69 w' w.heap.size (fun _ => True) (.slice Ao34 t303.length co34) t303) ∧ Aside0 (Below w.heap.size w w'))
                    case atStart => exact ⟨(y307), (([] : List ByteArray)), (0), (by first | rfl | (simp; done) | (simp [*]; done)), H', ⟨Nat.le_refl _⟩, ⟨by (with_reducible repeat (first | apply Kd.R_alloc | apply Kd.R_drewN | apply Kd.R_drew)); exact Kd.R_mono HO_7.out (fun _ hk => (by simp [Value.ownBlock]))⟩, ⟨by (with_reducible repeat (first | apply Kd.R_alloc | apply Kd.R_drewN | apply Kd.R_drew)); exact HO309.out⟩, ⟨by first | exact Kd.R_nil _ _ _ _ _ | exact Kd.N_nil _ _ _ _ _ | exact Kd.V_nil _ _ _ _ _ | exact Kd.Q_nil _ _ _ _ _ | exact Kd.S_nil _ _ _ _ _⟩, ⟨by (with_reducible repeat (first | apply Kd.R_alloc | apply Kd.R_drewN | apply Kd.R_drew)); exact HO306.out⟩, ⟨by repeat (first | (with_reducible first | exact HB.out | apply below_alloc | apply pw_below_drewN | apply below_drew1 | refine below_set ?_ (IsS127.ge HI273.out)) | exact HB.out)⟩⟩
                    case round =>
                      clear H'
                      try clear c1
                      try clear c2
                      try clear p2
                      try clear c3
                      try clear c4
                      try clear c4b0
                      try clear c5
                      try clear p6
                      try clear c10
                      try clear c16
                      try clear c16b0
                      try clear c16b1
                      try clear c20
                      try clear c20b0
                      try clear c20b1
                      try clear c24
                      try clear c24b0
                      try clear c24b1
                      try clear c25
                      try clear c25b0
                      try clear c25b1
                      try clear c26
                      try clear c26b0
                      try clear c26b1
                      try clear c29
                      try clear c31
                      try clear c32
                      try clear c33
                      try clear c34
                      try clear p2
                      try clear p6
                      obtain ⟨x13_3, x14_3, x64_3, rfl, HA, HK3, HO_7, HO_13, HO_14, HO_62, HB⟩ := hrel
                      cases gk with
                      | zero => exact absurd HA.out (by simp [texts_Get.l0])
                      | succ k3 =>
                        have H := HA.out
                        clear HA
                        simp only [texts_Get.l0] at H
                        by_cases c35 : x64_3 < (t303.length : Int)
                        · rw [if_pos c35] at H
                          have c35b0 : decide (x64_3 < (t303.length : Int)) = true := decide_eq_true c35
                          clear c35
                          by_cases c36 : 0 ≤ x64_3
                          · rw [if_pos c36] at H
                            have c36b0 : decide (0 ≤ x64_3) = true := decide_eq_true c36
                            clear c36
                            by_cases c37 : x64_3 < (t303.length : Int)
                            · rw [if_pos c37] at H
                              have c37b0 : decide (x64_3 < (t303.length : Int)) = true := decide_eq_true c37
                              clear c37
                              by_cases c38 : (rd t303 x64_3) ≥ (IntKind.u64.wrap ((t274.length : Int)))
                              · rw [if_pos c38] at H
                                have c38b0 : decide ((IntKind.u64.wrap ((t274.length : Int))) ≤ (rd t303 x64_3)) = true := decide_eq_true c38
                                clear c38
                                simp only [Option.some.injEq, Prod.mk.injEq] at H
                                obtain ⟨rfl, rfl⟩ := H
                                have p310 : 0 ≤ (x64_3 : Int) := of_decide_eq_true (by first | (with_reducible assumption) | assumption)
                                have q310 : x64_3 < (t303.length : Int) := of_decide_eq_true (by first | (with_reducible assumption) | assumption)
                                obtain ⟨ad310, e310, hx310_0⟩ := Kd.at_int (Kd.R_reads' HO_62.out).2.2 x64_3 p310 q310
                                cases e310
                                replace p310 := eq_true p310
                                replace q310 := eq_true q310
                                go_wp2
                                go_ret2
                                exact ⟨_, by first | rfl | (simp [errW_none, errW_some] <;> rfl) | (simp [*, errW_none, errW_some] <;> rfl), by first | exact Kd.R_nil _ _ _ _ _ | exact Kd.N_nil _ _ _ _ _ | exact Kd.V_nil _ _ _ _ _ | exact Kd.Q_nil _ _ _ _ _ | exact Kd.S_nil _ _ _ _ _, by repeat (first | (with_reducible first | exact HB.out | apply below_alloc | apply pw_below_drewN | apply below_drew1) | exact HB.out)⟩
                              · rw [if_neg c38] at H
                                have c38b0 : decide ((IntKind.u64.wrap ((t274.length : Int))) ≤ (rd t303 x64_3)) = false := decide_eq_false c38
                                clear c38
                                by_cases c39 : 0 ≤ (rd t303 x64_3)
                                · rw [if_pos c39] at H
                                  have c39b0 : decide (0 ≤ (rd t303 x64_3)) = true := decide_eq_true c39
                                  clear c39
                                  by_cases c40 : (rd t303 x64_3) < (x13_3.length : Int)
                                  · rw [if_pos c40] at H
                                    have c40b0 : decide ((rd t303 x64_3) < (x13_3.length : Int)) = true := decide_eq_true c40
                                    clear c40
                                    obtain ⟨y311, hy311⟩ : ∃ y_ : List Bool, y_ = (x13_3.set ((rd t303 x64_3) : Int).toNat true) := ⟨_, rfl⟩
                                    replace H : (if (rd t303 x64_3) < (t274.length : Int) then (if x14_3.length < 8796093022208 then (texts_Get.l0 k3 t274 y311 (x14_3 ++ [rdOf ByteArray.empty t274 (rd t303 x64_3)]) t303 (t303.length : Int) (wrap64 (x64_3 + 1))) else (none)) else (none)) = some (r1, r2) := by first | (rw [hy311]; with_reducible exact H) | (have H2_ := (Option.bind_some _ _).symm.trans H; rw [hy311]; with_reducible exact H2_) | (have H2_ := (Option.bind_some _ _).symm.trans H; with_reducible exact H2_) | with_reducible exact H | (rw [hy311]; exact H) | exact H
                                    have Ny311 := Aside0.mk hy311
                                    clear hy311
                                    by_cases c42 : (rd t303 x64_3) < (t274.length : Int)
                                    · rw [if_pos c42] at H
                                      have c42b0 : decide ((rd t303 x64_3) < (t274.length : Int)) = true := decide_eq_true c42
                                      clear c42
                                      by_cases c43 : x14_3.length < 8796093022208
                                      · rw [if_pos c43] at H
                                        have LMc43 := Aside0.mk c43
                                        clear c43
                                        obtain ⟨y313, hy313⟩ : ∃ y_ : List ByteArray, y_ = (x14_3 ++ [rdOf ByteArray.empty t274 (rd t303 x64_3)]) := ⟨_, rfl⟩
                                        replace H : (texts_Get.l0 k3 t274 y311 y313 t303 (t303.length : Int) (wrap64 (x64_3 + 1))) = some (r1, r2) := by first | (rw [hy313]; with_reducible exact H) | (have H2_ := (Option.bind_some _ _).symm.trans H; rw [hy313]; with_reducible exact H2_) | (have H2_ := (Option.bind_some _ _).symm.trans H; with_reducible exact H2_) | with_reducible exact H | (rw [hy313]; exact H) | exact H
                                        have Ny313 := Aside0.mk hy313
                                        clear hy313
                                        have H' := Aside0.mk H
                                        clear H
                                        have p310 : 0 ≤ (x64_3 : Int) := of_decide_eq_true (by first | (with_reducible assumption) | assumption)
                                        have q310 : x64_3 < (t303.length : Int) := of_decide_eq_true (by first | (with_reducible assumption) | assumption)
                                        obtain ⟨ad310, e310, hx310_0⟩ := Kd.at_int (Kd.R_reads' HO_62.out).2.2 x64_3 p310 q310
                                        cases e310
                                        replace p310 := eq_true p310
                                        replace q310 := eq_true q310
                                        have p41 : 0 ≤ ((rd t303 x64_3) : Int) := of_decide_eq_true (by first | (with_reducible assumption) | assumption)
                                        have q41 : ((rd t303 x64_3) : Int) < ((x13_3.length : Int) : Int) := of_decide_eq_true (by first | (with_reducible assumption) | assumption)
                                        obtain ⟨go41, co41, eo41, gb41, gl41, cl41, HG41⟩ := Kd.R_form HO_13.out (by omega)
                                        (first | cases eo41 | (injection eo41 with ea_ en_ ec_; (first | subst ea_ | (injection ea_ with ea_; subst ea_)); subst ec_; clear en_))
                                        have GB41 := Aside0.mk gb41
                                        have GG41 := Aside0.mk HG41
                                        clear gb41 gl41 HG41
                                        obtain ⟨hx41_0, hf41_0⟩ := Kd.R_celln false HO_13.out ((rd t303 x64_3) : Int) p41 q41
                                        replace p41 := eq_true p41
                                        replace q41 := eq_true q41
                                        have HP44 := Kd.R_putg HO_13.out ((rd t303 x64_3) : Int) true
                                        go_wp2_with (first | ((with_reducible refine gate_store (t := 4) (p := 75) rfl ?_); refine store_event (t := 4) (p := 75) (v := ?vo_w45) (w1 := (wr.setCell ⟨go41, ((rd t303 x64_3) : Int).toNat, none⟩ (.bool true))) ?hg ?ho ?hn ?hr ?_; (case ho => rfl); (case hg => rfl); (case hn => rfl); (case hr => first | (go_simp; done) | (go_simp; rfl)); intro w45 hw; have hg : wr.grownBy w45 (some go41) := (by rw [hw]; exact HP44.2); have hp_ : Kd.R Kd.bool 4 w45 w.heap.size (fun _ => True) (.slice (some ⟨go41, 0, none⟩) x13_3.length co41) y311 := (by rw [hw, Ny311.out]; exact HP44.1); clear HP44; have n0_ := Aside0.mk (Kd.R_over' (v := (.slice (some ⟨go41, 0, none⟩) x13_3.length co41)) (by (with_reducible repeat (first | apply Kd.R_alloc | apply Kd.R_drewN | apply Kd.R_drew)); exact HO_7.out) (Kd.R_typed HO_13.out) (by decide) hg); have n1_ := Aside0.mk (hp_); have n2_ := Aside0.mk (Kd.R_over' (v := (.slice (some ⟨go41, 0, none⟩) x13_3.length co41)) (by (with_reducible repeat (first | apply Kd.R_alloc | apply Kd.R_drewN | apply Kd.R_drew)); exact HO_14.out) (Kd.R_typed HO_13.out) (by decide) hg); have n3_ := Aside0.mk (Kd.R_over' (v := (.slice (some ⟨go41, 0, none⟩) x13_3.length co41)) (by (with_reducible repeat (first | apply Kd.R_alloc | apply Kd.R_drewN | apply Kd.R_drew)); exact HO_62.out) (Kd.R_typed HO_13.out) (by decide) hg); have n4_ := Aside0.mk ((by rw [hw]; exact below_set (HB.out) GB41.out : Below w.heap.size w w45)); clear HO_7; clear HO_13; clear HO_14; clear HO_62; clear HB; have HO_7 := n0_; have HO_13 := n1_; have HO_14 := n2_; have HO_62 := n3_; have HB := n4_; clear n0_ n1_ n2_ n3_ n4_; clear hg hw hp_; have p312 : 0 ≤ ((rd t303 x64_3) : Int) := of_decide_eq_true (by first | (with_reducible assumption) | assumption); have q312 : (rd t303 x64_3) < (t274.length : Int) := of_decide_eq_true (by first | (with_reducible assumption) | assumption); obtain ⟨ad312, e312, hx312_0⟩ := Kd.at_string (Kd.R_reads' HO_7.out).2.2 (rd t303 x64_3) p312 q312; cases e312; replace p312 := eq_true p312; replace q312 := eq_true q312) | ((with_reducible refine gate_builtin (b := .append) (xs := #[.tmp 76, .tmp 81]) rfl ?_); at_builtin; refine Kd.R_append Kd.string (w0 := w) w.heap.size rfl (.tmp 76) (.tmp 81) 22 9 (.string ⟨#[]⟩) 16 rfl Tryd.underlying22 info9 rfl (by decide) (by omega) u14 x14_3 (rdOf ByteArray.empty t274 (rd t303 x64_3)) [.string (rdOf ByteArray.empty t274 (rd t303 x64_3))] (fun k_ => some k_ ≠ (.slice (some ad312) t274.length co14 : Value).ownBlock) (fun _ => False) rfl rfl ?aP (fun _ hk => hk.elim) ?aF ?aO ?aB ?aS ?aL ?_; (case aP => exact rfl); (case aB => exact (by repeat (first | (with_reducible first | exact HB.out | apply below_alloc | apply pw_below_drewN | apply below_drew1) | exact HB.out))); (case aF => exact (fun k_ hk => Kd.fresh' (Kd.R_lt (by (with_reducible repeat (first | apply Kd.R_alloc | apply Kd.R_drewN | apply Kd.R_drew)); exact HO_7.out)) k_ hk)); (case aO => exact (by (with_reducible repeat (first | apply Kd.R_alloc | apply Kd.R_drewN | apply Kd.R_drew)); exact HO_14.out)); (case aS => exact (below_size (by repeat (first | (with_reducible first | exact HB.out | apply below_alloc | apply pw_below_drewN | apply below_drew1) | exact HB.out)))); (case aL => have := LMc43.out; omega); intro v314 w46 ho hb hg hat; rw [← Ny313.out] at ho; have n0_ := Aside0.mk (Kd.R_after (ok := (fun _ => True)) (by (with_reducible repeat (first | apply Kd.R_alloc | apply Kd.R_drewN | apply Kd.R_drew)); exact Kd.R_mono HO_7.out (fun _ hk => ⟨trivial, hk⟩)) hg hat); have n1_ := Aside0.mk (Kd.R_over' (by (with_reducible repeat (first | apply Kd.R_alloc | apply Kd.R_drewN | apply Kd.R_drew)); exact HO_13.out) (Kd.R_typed (by (with_reducible repeat (first | apply Kd.R_alloc | apply Kd.R_drewN | apply Kd.R_drew)); exact HO_14.out)) (by decide) hg); have n2_ := Aside0.mk (Kd.R_over' (by (with_reducible repeat (first | apply Kd.R_alloc | apply Kd.R_drewN | apply Kd.R_drew)); exact HO_62.out) (Kd.R_typed (by (with_reducible repeat (first | apply Kd.R_alloc | apply Kd.R_drewN | apply Kd.R_drew)); exact HO_14.out)) (by decide) hg); have n3_ := Aside0.mk (hb); have n4_ := Aside0.mk (ho); clear HO_7; clear HO_13; clear HO_62; clear HB; clear HO_14; have HO_7 := n0_; have HO_13 := n1_; have HO_62 := n2_; have HB := n3_; have HO315 := n4_; clear n0_ n1_ n2_ n3_ n4_; clear ho hb hg hat))
                                        go_roundg k3
                                        case measure => have := HJ2.out; have := HJ9.out; have := HK3.out; omega
                                        case rel => exact ⟨(y311), (y313), (wrap64 (x64_3 + 1)), (by first | rfl | (simp; done) | (simp [*]; done)), H', ⟨by have := HJ2.out; have := HJ9.out; have := HK3.out; omega⟩, ⟨by (with_reducible repeat (first | apply Kd.R_alloc | apply Kd.R_drewN | apply Kd.R_drew)); exact Kd.R_mono HO_7.out (fun _ hk => hk.2)⟩, ⟨by (with_reducible repeat (first | apply Kd.R_alloc | apply Kd.R_drewN | apply Kd.R_drew)); exact HO_13.out⟩, ⟨by (with_reducible repeat (first | apply Kd.R_alloc | apply Kd.R_drewN | apply Kd.R_drew)); exact HO315.out⟩, ⟨by (with_reducible repeat (first | apply Kd.R_alloc | apply Kd.R_drewN | apply Kd.R_drew)); exact HO_62.out⟩, ⟨by repeat (first | (with_reducible first | exact HB.out | apply below_alloc | apply pw_below_drewN | apply below_drew1) | exact HB.out)⟩⟩
                                      · rw [if_neg c43] at H
                                        exact absurd H (by simp)
                                    · rw [if_neg c42] at H
                                      exact absurd H (by simp)
                                  · rw [if_neg c40] at H
                                    exact absurd H (by simp)
                                · rw [if_neg c39] at H
                                  exact absurd H (by simp)
                            · rw [if_neg c37] at H
                              exact absurd H (by simp)
                          · rw [if_neg c36] at H
                            exact absurd H (by simp)
                        · rw [if_neg c35] at H
                          have c35b0 : decide (x64_3 < (t303.length : Int)) = false := decide_eq_false c35
                          clear c35
                          replace H := Option.bind_eq_some_iff.mp H
                          obtain ⟨t316, A470, H⟩ := H
                          replace H : (if t316 = true then (some (([] : List ByteArray), 4)) else (some (x14_3, 0))) = some (r1, r2) := H
                          have A47 := Aside0.mk A470
                          clear A470
                          by_cases c48 : t316 = true
                          · subst c48
                            have H1 : (some (([] : List ByteArray), 4)) = some (r1, r2) := by rw [if_pos rfl] at H; exact H
                            clear H
                            have H := H1
                            clear H1
                            simp only [Option.some.injEq, Prod.mk.injEq] at H
                            obtain ⟨rfl, rfl⟩ := H
                            obtain ⟨Ao49, co49, eo49⟩ := Kd.R_slice HO_13.out
                            subst eo49
                            go_wp2_with (first | ((with_reducible refine gate_callee (f := 39) rfl ?_); refine goesL_ (some 85) rfl rfl Tryd.func39 (by kernel_rfl) rfl #[.slice Ao49 x13_3.length co49, .bool false] rfl (by (try simp only [List.map_toArray, List.map_cons, List.map_nil]); first | done | rfl | (simp only [List.length_drop, List.length_take]; rfl)) ?_; (with_reducible refine (slices_Contains_bool_bool.calls k3 _ _ x13_3 false true _ ?side1 ?side2 A47.out).mono ?_); (case side1 => repeat (first | exact (Kd.R_reads' HO_13.out).2.2 | (with_reducible refine Kd.C_alloc ?_ _) | (with_reducible refine Kd.C_drewN ?_ _) | (with_reducible refine Kd.C_drew ?_))); (case side2 => exact (Kd.R_reads' HO_13.out).2.1); rintro e w' ⟨rfl, ⟨nd, rfl⟩⟩; refine ⟨_, rfl, ?_⟩))
                            go_ret2
                            exact ⟨_, by first | rfl | (simp [errW_none, errW_some] <;> rfl) | (simp [*, errW_none, errW_some] <;> rfl), by first | exact Kd.R_nil _ _ _ _ _ | exact Kd.N_nil _ _ _ _ _ | exact Kd.V_nil _ _ _ _ _ | exact Kd.Q_nil _ _ _ _ _ | exact Kd.S_nil _ _ _ _ _, by repeat (first | (with_reducible first | exact HB.out | apply below_alloc | apply pw_below_drewN | apply below_drew1) | exact HB.out)⟩
                          · replace c48 := Bool.eq_false_iff.mpr c48
                            subst c48
                            have H1 : (some (x14_3, 0)) = some (r1, r2) := by rw [if_neg (show ¬ (false = true) by decide)] at H; exact H
                            clear H
                            have H := H1
                            clear H1
                            simp only [Option.some.injEq, Prod.mk.injEq] at H
                            obtain ⟨rfl, rfl⟩ := H
                            obtain ⟨Ao50, co50, eo50⟩ := Kd.R_slice HO_13.out
                            subst eo50
                            go_wp2_with (first | ((with_reducible refine gate_callee (f := 39) rfl ?_); refine goesL_ (some 85) rfl rfl Tryd.func39 (by kernel_rfl) rfl #[.slice Ao50 x13_3.length co50, .bool false] rfl (by (try simp only [List.map_toArray, List.map_cons, List.map_nil]); first | done | rfl | (simp only [List.length_drop, List.length_take]; rfl)) ?_; (with_reducible refine (slices_Contains_bool_bool.calls k3 _ _ x13_3 false false _ ?side1 ?side2 A47.out).mono ?_); (case side1 => repeat (first | exact (Kd.R_reads' HO_13.out).2.2 | (with_reducible refine Kd.C_alloc ?_ _) | (with_reducible refine Kd.C_drewN ?_ _) | (with_reducible refine Kd.C_drew ?_))); (case side2 => exact (Kd.R_reads' HO_13.out).2.1); rintro e w' ⟨rfl, ⟨nd, rfl⟩⟩; refine ⟨_, rfl, ?_⟩))
                            go_ret2
                            exact ⟨_, by first | rfl | (simp [errW_none, errW_some] <;> rfl) | (simp [*, errW_none, errW_some] <;> rfl), by (with_reducible repeat (first | apply Kd.R_alloc | apply Kd.R_drewN | apply Kd.R_drew)); exact Kd.R_mono HO_14.out (fun _ hk => trivial), by repeat (first | (with_reducible first | exact HB.out | apply below_alloc | apply pw_below_drewN | apply below_drew1) | exact HB.out)⟩
                  · rw [if_neg c26] at H
                    exact absurd H (by simp)
                · rw [if_neg c25] at H
                  exact absurd H (by simp)
              · rw [if_neg c24] at H
                have c24b0 : (t304 == 0) = false := beq_eq_false_iff_ne.mpr c24
                have c24b1 : (t304 != 0) = true := bne_iff_ne.mpr c24
                simp only [Option.some.injEq, Prod.mk.injEq] at H
                obtain ⟨rfl, rfl⟩ := H
                go_wp2_with (first | ((with_reducible refine gate_callee (f := 35) rfl ?_); refine goesL_ (some 40) rfl rfl Tryd.func35 (by kernel_rfl) rfl #[.pointer (some ⟨g273, 0, none⟩)] rfl (by (try simp only [List.map_toArray, List.map_cons, List.map_nil]); first | done | rfl | (simp only [List.length_drop, List.length_take]; rfl)) ?_; (with_reducible refine (num_Reader_Err.calls g273 t269 x274001_9 x274002_9 x274003_9 t288 t289 t290 t291 t292 w _ ?side1 ?side2 A19.out).mono ?_); (case side1 => repeat (first | (with_reducible first | exact HI273.out | apply IsS127.alloc | apply IsS127.drewN | apply IsS127.drew | apply IsS127.set_1 | apply IsS127.set_2 | apply IsS127.set_3) | exact HI273.out)); (case side2 => repeat (first | (with_reducible first | exact HB.out | apply below_alloc | apply pw_below_drewN | apply below_drew1 | refine below_set ?_ (IsS127.ge HI273.out)) | exact HB.out)); rintro e w51 ⟨rfl, hi, hb, hk⟩; refine ⟨_, rfl, ?_⟩; have n0_ := Aside0.mk (Kd.R_mono (Kd.R_keep (IsS127.apart (show IsS127 w _ g273 t269 x274001_9 x274002_9 x274003_9 from by repeat (first | (with_reducible first | exact HI273.out | apply IsS127.alloc | apply IsS127.drewN | apply IsS127.drew | apply IsS127.set_1 | apply IsS127.set_2 | apply IsS127.set_3) | exact HI273.out)) (by (with_reducible repeat (first | apply Kd.R_alloc | apply Kd.R_drewN | apply Kd.R_drew)); exact HO_7.out) (by decide)) hk (fun _ h => h.2)) (fun _ h => h.1)); have n1_ := Aside0.mk (hb); have n2_ := Aside0.mk (hi); clear HO_7; clear HB; clear HI273; have HO_7 := n0_; have HB := n1_; have HI273 := n2_; clear n0_ n1_ n2_; (try clear hb); (try clear hb2); (try clear hk); (try clear hi)) | ((with_reducible refine gate_callee (f := 38) rfl ?_); refine goesL_ (some 49) rfl rfl Tryd.func38 (by kernel_rfl) rfl #[.pointer (some ⟨g273, 0, none⟩)] rfl (by (try simp only [List.map_toArray, List.map_cons, List.map_nil]); first | done | rfl | (simp only [List.length_drop, List.length_take]; rfl)) ?_; (with_reducible refine (num_Reader_Left.calls g273 t269 t290 t291 t292 t293 t294 t295 t296 w _ ?side1 ?side2 A21.out).mono ?_); (case side1 => repeat (first | (with_reducible first | exact HI273.out | apply IsS127.alloc | apply IsS127.drewN | apply IsS127.drew | apply IsS127.set_1 | apply IsS127.set_2 | apply IsS127.set_3) | exact HI273.out)); (case side2 => repeat (first | (with_reducible first | exact HB.out | apply below_alloc | apply pw_below_drewN | apply below_drew1 | refine below_set ?_ (IsS127.ge HI273.out)) | exact HB.out)); rintro e w52 ⟨rfl, hi, hb, hk⟩; refine ⟨_, rfl, ?_⟩; have n0_ := Aside0.mk (Kd.R_mono (Kd.R_keep (IsS127.apart (show IsS127 w _ g273 t269 t290 t291 t292 from by repeat (first | (with_reducible first | exact HI273.out | apply IsS127.alloc | apply IsS127.drewN | apply IsS127.drew | apply IsS127.set_1 | apply IsS127.set_2 | apply IsS127.set_3) | exact HI273.out)) (by (with_reducible repeat (first | apply Kd.R_alloc | apply Kd.R_drewN | apply Kd.R_drew)); exact HO_7.out) (by decide)) hk (fun _ h => h.2)) (fun _ h => h.1)); have n1_ := Aside0.mk (hb); have n2_ := Aside0.mk (hi); clear HO_7; clear HB; clear HI273; have HO_7 := n0_; have HB := n1_; have HI273 := n2_; clear n0_ n1_ n2_; (try clear hb); (try clear hb2); (try clear hk); (try clear hi)) | ((with_reducible refine gate_callee (f := 37) rfl ?_); refine goesL_ (some 50) rfl rfl Tryd.func37 (by kernel_rfl) rfl #[.pointer (some ⟨g273, 0, none⟩), .int .i64 t293] rfl (by (try simp only [List.map_toArray, List.map_cons, List.map_nil]); first | done | rfl | (simp only [List.length_drop, List.length_take]; rfl)) ?_; (with_reducible refine (num_Reader_Take.calls g273 t269 t294 t295 t296 t293 t297 t300 t301 t302 w _ ?side1 ?side2 A22.out).mono ?_); (case side1 => repeat (first | (with_reducible first | exact HI273.out | apply IsS127.alloc | apply IsS127.drewN | apply IsS127.drew | apply IsS127.set_1 | apply IsS127.set_2 | apply IsS127.set_3) | exact HI273.out)); (case side2 => repeat (first | (with_reducible first | exact HB.out | apply below_alloc | apply pw_below_drewN | apply below_drew1 | refine below_set ?_ (IsS127.ge HI273.out)) | exact HB.out)); rintro e w53 ⟨v298, rfl, ho0, hi, hb, hk⟩; refine ⟨_, rfl, ?_⟩; have n0_ := Aside0.mk (Kd.R_mono (Kd.R_keep (IsS127.apart (show IsS127 w _ g273 t269 t294 t295 t296 from by repeat (first | (with_reducible first | exact HI273.out | apply IsS127.alloc | apply IsS127.drewN | apply IsS127.drew | apply IsS127.set_1 | apply IsS127.set_2 | apply IsS127.set_3) | exact HI273.out)) (by (with_reducible repeat (first | apply Kd.R_alloc | apply Kd.R_drewN | apply Kd.R_drew)); exact HO_7.out) (by decide)) hk (fun _ h => h.2)) (fun _ h => h.1)); have n1_ := Aside0.mk (Kd.R_lower ho0 (below_size (by repeat (first | (with_reducible first | exact HB.out | apply below_alloc | apply pw_below_drewN | apply below_drew1 | refine below_set ?_ (IsS127.ge HI273.out)) | exact HB.out)))); have n2_ := Aside0.mk (hb); have n3_ := Aside0.mk (hi); clear HO_7; clear HB; clear HI273; have HO_7 := n0_; have HO299 := n1_; have HB := n2_; have HI273 := n3_; clear n0_ n1_ n2_ n3_; (try clear hb); (try clear hb2); (try clear hk); (try clear hi); (try clear ho0); obtain ⟨Ao54, co54, eo54⟩ := Kd.R_slice HO299.out; subst eo54) | ((with_reducible refine gate_callee (f := 36) rfl ?_); refine goesL_ (some 53) rfl rfl Tryd.func36 (by kernel_rfl) rfl #[.slice Ao54 t297.length co54, .int .i64 a1, .int .i64 (wrap64 (t280))] rfl (by (try simp only [List.map_toArray, List.map_cons, List.map_nil]); first | done | rfl | (simp only [List.length_drop, List.length_take]; rfl)) ?_; (with_reducible refine (bits_Unpack.calls kj9 _ _ t297 a1 (wrap64 (t280)) t303 t304 _ ?side1 ?side2 A23.out).mono ?_); (case side1 => repeat (first | exact (Kd.R_reads' HO299.out).2.2 | (with_reducible refine Kd.C_alloc ?_ _) | (with_reducible refine Kd.C_drewN ?_ _) | (with_reducible refine Kd.C_drew ?_))); (case side2 => exact (Kd.R_reads' HO299.out).2.1); rintro e w55 ⟨v305, rfl, ho0, hb⟩; refine ⟨_, rfl, ?_⟩; have n0_ := Aside0.mk (Kd.R_below (by (with_reducible repeat (first | apply Kd.R_alloc | apply Kd.R_drewN | apply Kd.R_drew)); exact HO_7.out) hb); have n1_ := Aside0.mk (Kd.R_below (by (with_reducible repeat (first | apply Kd.R_alloc | apply Kd.R_drewN | apply Kd.R_drew)); exact HO299.out) hb); have n2_ := Aside0.mk (Kd.R_lower ho0 (below_size (by repeat (first | (with_reducible first | exact HB.out | apply below_alloc | apply pw_below_drewN | apply below_drew1 | refine below_set ?_ (IsS127.ge HI273.out)) | exact HB.out)))); have n3_ := Aside0.mk (IsS127.below (by repeat (first | (with_reducible first | exact HI273.out | apply IsS127.alloc | apply IsS127.drewN | apply IsS127.drew | apply IsS127.set_1 | apply IsS127.set_2 | apply IsS127.set_3) | exact HI273.out)) hb); have n4_ := Aside0.mk (below_step (by repeat (first | (with_reducible first | exact HB.out | apply below_alloc | apply pw_below_drewN | apply below_drew1 | refine below_set ?_ (IsS127.ge HI273.out)) | exact HB.out)) hb); clear HO_7; clear HO299; clear HI273; clear HB; have HO_7 := n0_; have HO299 := n1_; have HO306 := n2_; have HI273 := n3_; have HB := n4_; clear n0_ n1_ n2_ n3_ n4_; (try clear hb); (try clear hb2); (try clear hk); (try clear hi); (try clear ho0)))
                go_ret2
                exact ⟨_, by first | rfl | (simp [errW_none, errW_some] <;> rfl) | (simp [*, errW_none, errW_some] <;> rfl), by first | exact Kd.R_nil _ _ _ _ _ | exact Kd.N_nil _ _ _ _ _ | exact Kd.V_nil _ _ _ _ _ | exact Kd.Q_nil _ _ _ _ _ | exact Kd.S_nil _ _ _ _ _, by repeat (first | (with_reducible first | exact HB.out | apply below_alloc | apply pw_below_drewN | apply below_drew1 | refine below_set ?_ (IsS127.ge HI273.out)) | exact HB.out)⟩
            · rw [if_neg c20] at H
              have c20b0 : (t288 == 0) = false := beq_eq_false_iff_ne.mpr c20
              have c20b1 : (t288 != 0) = true := bne_iff_ne.mpr c20
              simp only [Option.some.injEq, Prod.mk.injEq] at H
              obtain ⟨rfl, rfl⟩ := H
              go_wp2_with (first | ((with_reducible refine gate_callee (f := 35) rfl ?_); refine goesL_ (some 40) rfl rfl Tryd.func35 (by kernel_rfl) rfl #[.pointer (some ⟨g273, 0, none⟩)] rfl (by (try simp only [List.map_toArray, List.map_cons, List.map_nil]); first | done | rfl | (simp only [List.length_drop, List.length_take]; rfl)) ?_; (with_reducible refine (num_Reader_Err.calls g273 t269 x274001_9 x274002_9 x274003_9 t288 t289 t290 t291 t292 w _ ?side1 ?side2 A19.out).mono ?_); (case side1 => repeat (first | (with_reducible first | exact HI273.out | apply IsS127.alloc | apply IsS127.drewN | apply IsS127.drew | apply IsS127.set_1 | apply IsS127.set_2 | apply IsS127.set_3) | exact HI273.out)); (case side2 => repeat (first | (with_reducible first | exact HB.out | apply below_alloc | apply pw_below_drewN | apply below_drew1 | refine below_set ?_ (IsS127.ge HI273.out)) | exact HB.out)); rintro e w56 ⟨rfl, hi, hb, hk⟩; refine ⟨_, rfl, ?_⟩; have n0_ := Aside0.mk (Kd.R_mono (Kd.R_keep (IsS127.apart (show IsS127 w _ g273 t269 x274001_9 x274002_9 x274003_9 from by repeat (first | (with_reducible first | exact HI273.out | apply IsS127.alloc | apply IsS127.drewN | apply IsS127.drew | apply IsS127.set_1 | apply IsS127.set_2 | apply IsS127.set_3) | exact HI273.out)) (by (with_reducible repeat (first | apply Kd.R_alloc | apply Kd.R_drewN | apply Kd.R_drew)); exact HO_7.out) (by decide)) hk (fun _ h => h.2)) (fun _ h => h.1)); have n1_ := Aside0.mk (hb); have n2_ := Aside0.mk (hi); clear HO_7; clear HB; clear HI273; have HO_7 := n0_; have HB := n1_; have HI273 := n2_; clear n0_ n1_ n2_; (try clear hb); (try clear hb2); (try clear hk); (try clear hi)))
              go_ret2
              exact ⟨_, by first | rfl | (simp [errW_none, errW_some] <;> rfl) | (simp [*, errW_none, errW_some] <;> rfl), by first | exact Kd.R_nil _ _ _ _ _ | exact Kd.N_nil _ _ _ _ _ | exact Kd.V_nil _ _ _ _ _ | exact Kd.Q_nil _ _ _ _ _ | exact Kd.S_nil _ _ _ _ _, by repeat (first | (with_reducible first | exact HB.out | apply below_alloc | apply pw_below_drewN | apply below_drew1 | refine below_set ?_ (IsS127.ge HI273.out)) | exact HB.out)⟩

/-! ### estreatref13_Same: function 11 -/
def estreatref13_Same.l0 : Nat → List ByteArray → List ByteArray → Int → Option (Bool)
  | 0, _, _, _ => none
  | k + 1, x0, x1, x5 => if x5 < (x0.length : Int) then (if 0 ≤ x5 then (if x5 < (x1.length : Int) then (if (rdOf ByteArray.empty x0 x5).toList = (rdOf ByteArray.empty x1 x5).toList then (estreatref13_Same.l0 k x0 x1 (wrap64 (x5 + 1))) else (some false)) else (none)) else (none)) else (some true)
def estreatref13_Same.f (k : Nat) (l0 : List ByteArray) (l1 : List ByteArray) : Option (Bool) := if (l0.length : Int) = (l1.length : Int) then (estreatref13_Same.l0 k l0 l1 0) else (some false)
set_option maxHeartbeats 8000000 in
set_option maxRecDepth 100000 in
theorem estreatref13_Same.calls (k : Nat) (A0 : Option Addr) (c0 : Nat) (l0 : List ByteArray) (A1 : Option Addr) (c1 : Nat) (l1 : List ByteArray) (r : Bool) (w : World) (hr0 : Kd.C Kd.string w A0 l0.length l0) (hc0 : l0.length ≤ c0) (hr1 : Kd.C Kd.string w A1 l1.length l1) (hc1 : l1.length ≤ c1) (h : estreatref13_Same.f k l0 l1 = some r) :
    Calls Tryd.prog 11 #[.slice A0 l0.length c0, .slice A1 l1.length c1] w fun e w' => e = .returned (.bool r) ∧ Drawn0 w w' := by
  have HR0 := Aside0.mk hr0
  have HC0 := Aside0.mk hc0
  clear hr0 hc0
  have HR1 := Aside0.mk hr1
  have HC1 := Aside0.mk hc1
  clear hr1 hc1
  have H : (if (l0.length : Int) = (l1.length : Int) then (estreatref13_Same.l0 k l0 l1 0) else (some false)) = some r := h
  clear h
  by_cases c3 : (l0.length : Int) = (l1.length : Int)
  · rw [if_pos c3] at H
    have c3b0 : ((l0.length : Int) == (l1.length : Int)) = true := beq_iff_eq.mpr c3
    have c3b1 : ((l0.length : Int) != (l1.length : Int)) = false := bne_eq_false_iff_eq.mpr c3
    have c3b2 : (l0.length == l1.length) = true := by first | simpa using c3 | (simp at c3 ⊢; omega)
    clear c3
    have H' := Aside0.mk H
    clear H
    go_enter Tryd.func11, Tryd.ntmps11
    go_wp2
    repeat (go_quiet (fail); try go_wp2)
    go_loopg [5] k (fun kq v5 w' => ∃ (x5_1 : Int), v5 = .int .i64 x5_1 ∧ Aside0 (estreatref13_Same.l0 kq l0 l1 x5_1 = some r) ∧ Aside0 (kq ≤ k) ∧ Drawn0 w w')
    case atStart => exact ⟨(0), (by first | rfl | (simp; done) | (simp [*]; done)), H', ⟨Nat.le_refl _⟩, by repeat (first | exact Drawn0.refl _ | apply Drawn0.step)⟩
    case round =>
      clear H'
      try clear c1
      try clear p2
      try clear c3
      try clear c3b0
      try clear c3b1
      try clear c3b2
      obtain ⟨x5_1, rfl, HA, HK1, ⟨m1, rfl⟩⟩ := hrel
      cases gk with
      | zero => exact absurd HA.out (by simp [estreatref13_Same.l0])
      | succ k1 =>
        have H := HA.out
        clear HA
        simp only [estreatref13_Same.l0] at H
        by_cases c4 : x5_1 < (l0.length : Int)
        · rw [if_pos c4] at H
          have c4b0 : decide (x5_1 < (l0.length : Int)) = true := decide_eq_true c4
          clear c4
          by_cases c5 : 0 ≤ x5_1
          · rw [if_pos c5] at H
            have c5b0 : decide (0 ≤ x5_1) = true := decide_eq_true c5
            clear c5
            by_cases c6 : x5_1 < (l1.length : Int)
            · rw [if_pos c6] at H
              have c6b0 : decide (x5_1 < (l1.length : Int)) = true := decide_eq_true c6
              clear c6
              by_cases c7 : (rdOf ByteArray.empty l0 x5_1).toList = (rdOf ByteArray.empty l1 x5_1).toList
              · rw [if_pos c7] at H
                have c7b0 : ((rdOf ByteArray.empty l0 x5_1).toList == (rdOf ByteArray.empty l1 x5_1).toList) = true := beq_iff_eq.mpr c7
                have c7b1 : ((rdOf ByteArray.empty l0 x5_1).toList != (rdOf ByteArray.empty l1 x5_1).toList) = false := bne_eq_false_iff_eq.mpr c7
                clear c7
                have H' := Aside0.mk H
                clear H
                have p317 : 0 ≤ (x5_1 : Int) := of_decide_eq_true (by first | (with_reducible assumption) | assumption)
                have q317 : x5_1 < (l0.length : Int) := of_decide_eq_true (by first | (with_reducible assumption) | assumption)
                obtain ⟨ad317, e317, hx317_0⟩ := Kd.at_string HR0.out x5_1 p317 q317
                cases e317
                replace p317 := eq_true p317
                replace q317 := eq_true q317
                have p318 : 0 ≤ (x5_1 : Int) := of_decide_eq_true (by first | (with_reducible assumption) | assumption)
                have q318 : x5_1 < (l1.length : Int) := of_decide_eq_true (by first | (with_reducible assumption) | assumption)
                obtain ⟨ad318, e318, hx318_0⟩ := Kd.at_string HR1.out x5_1 p318 q318
                cases e318
                replace p318 := eq_true p318
                replace q318 := eq_true q318
                go_wp2
                repeat (go_quiet (fail); try go_wp2)
                go_roundg k1
                case measure => have := HK1.out; omega
                case rel => exact ⟨(wrap64 (x5_1 + 1)), (by first | rfl | (simp; done) | (simp [*]; done)), H', ⟨by have := HK1.out; omega⟩, by repeat (first | exact Drawn0.refl _ | apply Drawn0.step)⟩
              · rw [if_neg c7] at H
                have c7b0 : ((rdOf ByteArray.empty l0 x5_1).toList == (rdOf ByteArray.empty l1 x5_1).toList) = false := beq_eq_false_iff_ne.mpr c7
                have c7b1 : ((rdOf ByteArray.empty l0 x5_1).toList != (rdOf ByteArray.empty l1 x5_1).toList) = true := bne_iff_ne.mpr c7
                obtain rfl := Option.some.inj H
                have p317 : 0 ≤ (x5_1 : Int) := of_decide_eq_true (by first | (with_reducible assumption) | assumption)
                have q317 : x5_1 < (l0.length : Int) := of_decide_eq_true (by first | (with_reducible assumption) | assumption)
                obtain ⟨ad317, e317, hx317_0⟩ := Kd.at_string HR0.out x5_1 p317 q317
                cases e317
                replace p317 := eq_true p317
                replace q317 := eq_true q317
                have p318 : 0 ≤ (x5_1 : Int) := of_decide_eq_true (by first | (with_reducible assumption) | assumption)
                have q318 : x5_1 < (l1.length : Int) := of_decide_eq_true (by first | (with_reducible assumption) | assumption)
                obtain ⟨ad318, e318, hx318_0⟩ := Kd.at_string HR1.out x5_1 p318 q318
                cases e318
                replace p318 := eq_true p318
                replace q318 := eq_true q318
                go_wp2
                repeat (go_quiet (fail); try go_wp2)
                go_ret
                exact ⟨by first | rfl | (simp; done) | (simp [*]; done), by repeat (first | exact Drawn0.refl _ | apply Drawn0.step)⟩
            · rw [if_neg c6] at H
              exact absurd H (by simp)
          · rw [if_neg c5] at H
            exact absurd H (by simp)
        · rw [if_neg c4] at H
          have c4b0 : decide (x5_1 < (l0.length : Int)) = false := decide_eq_false c4
          clear c4
          obtain rfl := Option.some.inj H
          go_wp2
          repeat (go_quiet (fail); try go_wp2)
          go_ret
          exact ⟨by first | rfl | (simp; done) | (simp [*]; done), by repeat (first | exact Drawn0.refl _ | apply Drawn0.step)⟩
  · rw [if_neg c3] at H
    have c3b0 : ((l0.length : Int) == (l1.length : Int)) = false := beq_eq_false_iff_ne.mpr c3
    have c3b1 : ((l0.length : Int) != (l1.length : Int)) = true := bne_iff_ne.mpr c3
    have c3b2 : (l0.length == l1.length) = false := by first | simpa using c3 | (simp at c3 ⊢; omega)
    obtain rfl := Option.some.inj H
    go_enter Tryd.func11, Tryd.ntmps11
    go_wp2
    repeat (go_quiet (fail); try go_wp2)
    go_ret
    exact ⟨by first | rfl | (simp; done) | (simp [*]; done), by repeat (first | exact Drawn0.refl _ | apply Drawn0.step)⟩

end Go.Proofs.YtbkocklahdlgkaaDoor.PTextsBack
