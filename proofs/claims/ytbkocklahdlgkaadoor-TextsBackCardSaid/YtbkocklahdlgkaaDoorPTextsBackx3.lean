/- WRITTEN BY A PROGRAM of this session (wip/tool: a turned copy of the printer), out of the translation: Lean functions with the answers of the Go functions, and the proofs that the Go code comes to them. -/
import Derived.Test.YtbkocklahdlgkaaDoorPTextsBackx0
import Derived.Test.YtbkocklahdlgkaaDoorPTextsBackx1
import Derived.Test.YtbkocklahdlgkaaDoorPTextsBackx2
namespace Go.Proofs.YtbkocklahdlgkaaDoor.PTextsBack
open Go.RowKit Go.Proofs.YtbkocklahdlgkaaDoorW.PrintWords Go.Proofs.YtbkocklahdlgkaaDoorW.PrintLast Go.Proofs.YtbkocklahdlgkaaDoorW.PrintMore
attribute [local go_sem] max2_int min2_int max_two min_two max_three min_three max_four min_four   -- for this text's walks alone
set_option linter.unusedVariables false
set_option linter.unusedSimpArgs false

/-! ### texts_Put: function 9 -/
mutual
def texts_Put.j0 : Nat → List ByteArray → Bool → Option (List Int × Int)
  | 0, _, _ => none
  | k + 1, x0, x22 => if x22 = true then (some (([] : List Int), 12)) else ((texts_List.f x0).bind fun t132 => ((num_PutVar.f k ([] : List Int) (IntKind.u64.wrap ((t132.length : Int)))).bind fun t135 => (texts_Put.l0 k x0 t132 t135 t132 (t132.length : Int) 0)))
def texts_Put.l0 : Nat → List ByteArray → List ByteArray → List Int → List ByteArray → Int → Int → Option (List Int × Int)
  | 0, _, _, _, _, _, _ => none
  | k + 1, x0, x4, x5, x29, x30, x31 => if x31 < x30 then (if 0 ≤ x31 then (if x31 < (x29.length : Int) then ((num_PutBlobS.f k x5 (rdOf ByteArray.empty x29 x31)).bind fun t139 => (texts_Put.l0 k x0 x4 t139 x29 x30 (wrap64 (x31 + 1)))) else (none)) else (none)) else (texts_Put.l1 k x4 x5 ([] : List Int) x0 (x0.length : Int) 0)
def texts_Put.l1 : Nat → List ByteArray → List Int → List Int → List ByteArray → Int → Int → Option (List Int × Int)
  | 0, _, _, _, _, _, _ => none
  | k + 1, x4, x5, x8, x40, x41, x42 => if x42 < x41 then (if 0 ≤ x42 then (if x42 < (x40.length : Int) then ((slices_BinarySearch_string_string.f k x4 (rdOf ByteArray.empty x40 x42)).bind fun bt143 => (if x8.length < 17592186044416 then (texts_Put.l1 k x4 x5 (x8 ++ [IntKind.u64.wrap (bt143.1)]) x40 x41 (wrap64 (x42 + 1))) else (none))) else (none)) else (none)) else ((texts_width.f (x4.length : Int)).bind fun t148 => ((bits_Pack.f k x8 t148).bind fun bt149 => (if x5.length < 140737488355328 then ((some (x5 ++ [(t148) % 256] : List Int)).bind fun y153 => (if y153.length + bt149.1.length < 140737488355328 then (some ((y153 ++ bt149.1), bt149.2)) else (none))) else (none))))
end
def texts_Put.f (k : Nat) (l0 : List ByteArray) : Option (List Int × Int) := if (l0.length : Int) > 65536 then (texts_Put.j0 k l0 true) else ((slices_ContainsFunc_string_string.f l0).bind fun t131 => (texts_Put.j0 k l0 t131))
set_option maxHeartbeats 8000000 in
set_option maxRecDepth 100000 in
theorem texts_Put.calls (k : Nat) (A0 : Option Addr) (c0 : Nat) (l0 : List ByteArray) (r1 : List Int) (r2 : Int) (w : World) (hr0 : Kd.C Kd.string w A0 l0.length l0) (hc0 : l0.length ≤ c0) (h : texts_Put.f k l0 = some (r1, r2)) :
    Calls Tryd.prog 9 #[.slice A0 l0.length c0] w fun e w' => ∃ v0_ : Value, e = .returned (.tuple #[v0_, .int .i64 r2]) ∧ Kd.R (Kd.int .u8) 5 w' w.heap.size (fun _ => True) v0_ r1 ∧ Below w.heap.size w w' := by
  have HR0 := Aside0.mk hr0
  have HC0 := Aside0.mk hc0
  clear hr0 hc0
  have HB := Aside0.mk (Below.refl w.heap.size w)
  have H : (if (l0.length : Int) > 65536 then (texts_Put.j0 k l0 true) else ((slices_ContainsFunc_string_string.f l0).bind fun t131 => (texts_Put.j0 k l0 t131))) = some (r1, r2) := h
  clear h
  have HC2 := Aside0.mk H
  clear H
  go_enter Tryd.func9, Tryd.ntmps9
  go_upto_region 1 with (fail)
  go_cut [22] (fun v22 wc => ∃ (kq : Nat) (x22_1 : Bool), v22 = .bool x22_1 ∧ Aside0 (texts_Put.j0 kq l0 x22_1 = some (r1, r2)) ∧ Aside0 (kq ≤ k) ∧ Aside0 (Below w.heap.size w wc))
  case first =>
    have H := HC2.out
    clear HC2
    by_cases c3 : (l0.length : Int) > 65536
    · rw [if_pos c3] at H
      have c3b0 : decide (65536 < (l0.length : Int)) = true := decide_eq_true c3
      have c3b1 : decide (65536 < l0.length) = true := decide_eq_true (by omega)
      clear c3
      (first | rw [c3b0] | (simp only [i64_w, i32_w]; rw [c3b0]) | skip)
      have H' := Aside0.mk H
      clear H
      go_wp2
      go_meet
      case rel => exact ⟨_, (true), (by first | rfl | (simp; done) | (simp [*]; done)), H', ⟨by first | omega | exact Nat.le_refl _⟩, ⟨by repeat (first | (with_reducible first | exact HB.out | apply below_alloc | apply pw_below_drewN | apply below_drew1) | exact HB.out)⟩⟩
    · rw [if_neg c3] at H
      have c3b0 : decide (65536 < (l0.length : Int)) = false := decide_eq_false c3
      have c3b1 : decide (65536 < l0.length) = false := decide_eq_false (by omega)
      clear c3
      (first | rw [c3b0] | (simp only [i64_w, i32_w]; rw [c3b0]) | skip)
      replace H := Option.bind_eq_some_iff.mp H
      obtain ⟨t131, A40, H⟩ := H
      replace H : (texts_Put.j0 k l0 t131) = some (r1, r2) := H
      have A4 := Aside0.mk A40
      clear A40
      have H' := Aside0.mk H
      clear H
      go_wp2_with (first | (go_at_call 23; (with_reducible refine (slices_ContainsFunc_string_string.calls _ _ l0  t131 _ ?side1 ?side2 A4.out).mono ?_); (case side1 => repeat (first | exact (Kd.C_below HR0.out HB.out) | (with_reducible refine Kd.C_alloc ?_ _) | (with_reducible refine Kd.C_drewN ?_ _) | (with_reducible refine Kd.C_drew ?_))); (case side2 => exact HC0.out); rintro e w' ⟨rfl, ⟨nd, rfl⟩⟩))
      go_meet
      case rel => exact ⟨_, (t131), (by first | rfl | (simp; done) | (simp [*]; done)), H', ⟨by first | omega | exact Nat.le_refl _⟩, ⟨by repeat (first | (with_reducible first | exact HB.out | apply below_alloc | apply pw_below_drewN | apply below_drew1) | exact HB.out)⟩⟩
  case rest =>
    clear HC2
    try clear p2
    try clear c3
    try clear c3b0
    try clear c3b1
    obtain ⟨kq, x22_1, rfl, HA, HJ1, HB⟩ := hcut
    cases kq with
    | zero => exact absurd HA.out (by simp [texts_Put.j0])
    | succ kj1 =>
      have H := HA.out
      clear HA
      simp only [texts_Put.j0] at H
      by_cases c5 : x22_1 = true
      · subst c5
        have H1 : (some (([] : List Int), 12)) = some (r1, r2) := by rw [if_pos rfl] at H; exact H
        clear H
        have H := H1
        clear H1
        simp only [Option.some.injEq, Prod.mk.injEq] at H
        obtain ⟨rfl, rfl⟩ := H
        go_wp2
        go_ret2
        exact ⟨_, by first | rfl | (simp [errW_none, errW_some] <;> rfl) | (simp [*, errW_none, errW_some] <;> rfl), by first | exact Kd.R_nil _ _ _ _ _ | exact Kd.N_nil _ _ _ _ _ | exact Kd.V_nil _ _ _ _ _ | exact Kd.Q_nil _ _ _ _ _ | exact Kd.S_nil _ _ _ _ _, by repeat (first | (with_reducible first | exact HB.out | apply below_alloc | apply pw_below_drewN | apply below_drew1) | exact HB.out)⟩
      · replace c5 := Bool.eq_false_iff.mpr c5
        subst c5
        have H1 : ((texts_List.f l0).bind fun t132 => ((num_PutVar.f kj1 ([] : List Int) (IntKind.u64.wrap ((t132.length : Int)))).bind fun t135 => (texts_Put.l0 kj1 l0 t132 t135 t132 (t132.length : Int) 0))) = some (r1, r2) := by rw [if_neg (show ¬ (false = true) by decide)] at H; exact H
        clear H
        have H := H1
        clear H1
        replace H := Option.bind_eq_some_iff.mp H
        obtain ⟨t132, A60, H⟩ := H
        replace H : ((num_PutVar.f kj1 ([] : List Int) (IntKind.u64.wrap ((t132.length : Int)))).bind fun t135 => (texts_Put.l0 kj1 l0 t132 t135 t132 (t132.length : Int) 0)) = some (r1, r2) := H
        have A6 := Aside0.mk A60
        clear A60
        replace H := Option.bind_eq_some_iff.mp H
        obtain ⟨t135, A70, H⟩ := H
        replace H : (texts_Put.l0 kj1 l0 t132 t135 t132 (t132.length : Int) 0) = some (r1, r2) := H
        have A7 := Aside0.mk A70
        clear A70
        have H' := Aside0.mk H
        clear H
        go_wp2_with (first | ((with_reducible refine gate_callee (f := 25) rfl ?_); refine goesL_ (some 24) rfl rfl Tryd.func25 (by kernel_rfl) rfl #[.slice A0 l0.length c0] rfl (by (try simp only [List.map_toArray, List.map_cons, List.map_nil]); first | done | rfl | (simp only [List.length_drop, List.length_take]; rfl)) ?_; (with_reducible refine (texts_List.calls _ _ l0 t132 _ ?side1 ?side2 A6.out).mono ?_); (case side1 => repeat (first | exact (Kd.C_below HR0.out HB.out) | (with_reducible refine Kd.C_alloc ?_ _) | (with_reducible refine Kd.C_drewN ?_ _) | (with_reducible refine Kd.C_drew ?_))); (case side2 => exact HC0.out); rintro e w8 ⟨v133, rfl, ho0, hb⟩; refine ⟨_, rfl, ?_⟩; have n0_ := Aside0.mk (Kd.R_lower ho0 (below_size (by repeat (first | (with_reducible first | exact HB.out | apply below_alloc | apply pw_below_drewN | apply below_drew1) | exact HB.out)))); have n1_ := Aside0.mk (below_step (by repeat (first | (with_reducible first | exact HB.out | apply below_alloc | apply pw_below_drewN | apply below_drew1) | exact HB.out)) hb); clear HB; have HO134 := n0_; have HB := n1_; clear n0_ n1_; (try clear hb); (try clear hb2); (try clear hk); (try clear hi); (try clear ho0); obtain ⟨Ao9, co9, eo9⟩ := Kd.R_slice HO134.out; subst eo9) | ((with_reducible refine gate_callee (f := 26) rfl ?_); refine goesL_ (some 28) rfl rfl Tryd.func26 (by kernel_rfl) rfl #[.slice none 0 0, .int .u64 (IntKind.u64.wrap ((t132.length : Int)))] rfl (by (try simp only [List.map_toArray, List.map_cons, List.map_nil]); first | done | rfl | (simp only [List.length_drop, List.length_take]; rfl)) ?_; (refine (num_PutVar.calls kj1 (fun k_ => some k_ = (.slice none 0 0 : Value).ownBlock) (.slice none 0 0) ([] : List Int) (IntKind.u64.wrap ((t132.length : Int))) t135 w _ ?side1 ?side2 A7.out).mono ?_); (case side1 => repeat (first | (with_reducible first | exact HB.out | apply below_alloc | apply pw_below_drewN | apply below_drew1) | exact HB.out)); (case side2 => exact Kd.R_nil _ _ _ _ _); rintro e w10 ⟨v136, rfl, ho0, hb, hkp⟩; refine ⟨_, rfl, ?_⟩; have n0_ := Aside0.mk (Kd.R_mono (ok' := fun k_ => True) (Kd.R_keptB (HO134.out) hkp (fun k_ hk_ hs_ => (fun e_ => by simp [Value.ownBlock] at e_) hs_)) (fun k_ hk_ => trivial)); have n1_ := Aside0.mk (Kd.R_mono (ok' := fun k_ => True) ho0 (fun k_ hk_ => trivial)); have n2_ := Aside0.mk (hb); clear HO134; clear HB; have HO134 := n0_; have HO137 := n1_; have HB := n2_; clear n0_ n1_ n2_; (try clear hb); (try clear hkp); (try clear ho0)))
        go_loopg [5, 31] kj1 (fun kq v5 v31 w' => ∃ (x5_2 : List Int) (x31_2 : Int), v31 = .int .i64 x31_2 ∧ Aside0 (texts_Put.l0 kq l0 t132 x5_2 t132 (t132.length : Int) x31_2 = some (r1, r2)) ∧ Aside0 (kq ≤ kj1) ∧ Aside0 (Kd.R Kd.string 9 w' w.heap.size (fun _ => True) (.slice Ao9 t132.length co9) t132) ∧ Aside0 (Kd.R (Kd.int .u8) 5 w' w.heap.size (fun _ => True) v5 x5_2) ∧ Aside0 (Kd.R Kd.string 9 w' w.heap.size (fun _ => True) (.slice Ao9 t132.length co9) t132) ∧ Aside0 (Below w.heap.size w w'))
        case atStart => exact ⟨(t135), (0), (by first | rfl | (simp; done) | (simp [*]; done)), H', ⟨Nat.le_refl _⟩, ⟨by (with_reducible repeat (first | apply Kd.R_alloc | apply Kd.R_drewN | apply Kd.R_drew)); exact HO134.out⟩, ⟨by (with_reducible repeat (first | apply Kd.R_alloc | apply Kd.R_drewN | apply Kd.R_drew)); exact HO137.out⟩, ⟨by (with_reducible repeat (first | apply Kd.R_alloc | apply Kd.R_drewN | apply Kd.R_drew)); exact HO134.out⟩, ⟨by repeat (first | (with_reducible first | exact HB.out | apply below_alloc | apply pw_below_drewN | apply below_drew1) | exact HB.out)⟩⟩
        case round =>
          clear H'
          try clear c2
          try clear p2
          try clear c3
          try clear c3b0
          try clear c3b1
          try clear c5
          try clear c9
          try clear p2
          obtain ⟨x5_2, x31_2, rfl, HA, HK2, HO_4, HO_5, HO_29, HB⟩ := hrel
          cases gk with
          | zero => exact absurd HA.out (by simp [texts_Put.l0])
          | succ k2 =>
            have H := HA.out
            clear HA
            simp only [texts_Put.l0] at H
            by_cases c11 : x31_2 < (t132.length : Int)
            · rw [if_pos c11] at H
              have c11b0 : decide (x31_2 < (t132.length : Int)) = true := decide_eq_true c11
              clear c11
              by_cases c12 : 0 ≤ x31_2
              · rw [if_pos c12] at H
                have c12b0 : decide (0 ≤ x31_2) = true := decide_eq_true c12
                clear c12
                by_cases c13 : x31_2 < (t132.length : Int)
                · rw [if_pos c13] at H
                  have c13b0 : decide (x31_2 < (t132.length : Int)) = true := decide_eq_true c13
                  clear c13
                  replace H := Option.bind_eq_some_iff.mp H
                  obtain ⟨t139, A140, H⟩ := H
                  replace H : (texts_Put.l0 k2 l0 t132 t139 t132 (t132.length : Int) (wrap64 (x31_2 + 1))) = some (r1, r2) := H
                  have A14 := Aside0.mk A140
                  clear A140
                  have H' := Aside0.mk H
                  clear H
                  have p138 : 0 ≤ (x31_2 : Int) := of_decide_eq_true (by first | (with_reducible assumption) | assumption)
                  have q138 : x31_2 < (t132.length : Int) := of_decide_eq_true (by first | (with_reducible assumption) | assumption)
                  obtain ⟨ad138, e138, hx138_0⟩ := Kd.at_string (Kd.R_reads' HO_29.out).2.2 x31_2 p138 q138
                  cases e138
                  replace p138 := eq_true p138
                  replace q138 := eq_true q138
                  obtain ⟨Ao15, co15, eo15⟩ := Kd.R_slice HO_5.out
                  subst eo15
                  go_wp2_with (first | (refine num_PutBlobS.wp (w0 := w) k2 (fun k_ => some k_ = (.slice Ao15 x5_2.length co15 : Value).ownBlock) (.slice Ao15 x5_2.length co15) x5_2 (rdOf ByteArray.empty t132 x31_2) t139 rfl rfl rfl rfl rfl rfl (fun _ => ⟨rfl, rfl⟩) (by first | rfl | exact Or.inr trivial)  ?side1 ?side2 A14.out ?_; (case side1 => repeat (first | (with_reducible first | exact HB.out | apply below_alloc | apply pw_below_drewN | apply below_drew1) | exact HB.out)); (case side2 => exact Kd.R_tight rfl HO_5.out); intro vcA14; rintro e w16 ⟨v140, rfl, ho0, hb, hkp⟩; refine ⟨_, rfl, ?_⟩; have n0_ := Aside0.mk (Kd.R_mono (ok' := fun k_ => True) (Kd.R_keptB ((Kd.R_apart' HO_4.out (Kd.R_typed HO_5.out) (by decide))) hkp (fun k_ hk_ hs_ => (hk_.2) hs_)) (fun k_ hk_ => trivial)); have n1_ := Aside0.mk (Kd.R_mono (ok' := fun k_ => True) (Kd.R_keptB ((Kd.R_apart' HO_29.out (Kd.R_typed HO_5.out) (by decide))) hkp (fun k_ hk_ hs_ => (hk_.2) hs_)) (fun k_ hk_ => trivial)); have n2_ := Aside0.mk (Kd.R_mono (ok' := fun k_ => True) ho0 (fun k_ hk_ => trivial)); have n3_ := Aside0.mk (hb); clear HO_4; clear HO_29; clear HB; clear HO_5; have HO_4 := n0_; have HO_29 := n1_; have HO141 := n2_; have HB := n3_; clear n0_ n1_ n2_ n3_; (try clear hb); (try clear hkp); (try clear ho0)))
                  go_roundg k2
                  case measure => have := HJ1.out; have := HK2.out; omega
                  case rel => exact ⟨(t139), (wrap64 (x31_2 + 1)), (by first | rfl | (simp; done) | (simp [*]; done)), H', ⟨by have := HJ1.out; have := HK2.out; omega⟩, ⟨by (with_reducible repeat (first | apply Kd.R_alloc | apply Kd.R_drewN | apply Kd.R_drew)); exact HO_4.out⟩, ⟨by (with_reducible repeat (first | apply Kd.R_alloc | apply Kd.R_drewN | apply Kd.R_drew)); exact HO141.out⟩, ⟨by (with_reducible repeat (first | apply Kd.R_alloc | apply Kd.R_drewN | apply Kd.R_drew)); exact HO_29.out⟩, ⟨by repeat (first | (with_reducible first | exact HB.out | apply below_alloc | apply pw_below_drewN | apply below_drew1) | exact HB.out)⟩⟩
                · rw [if_neg c13] at H
                  exact absurd H (by simp)
              · rw [if_neg c12] at H
                exact absurd H (by simp)
            · rw [if_neg c11] at H
              have c11b0 : decide (x31_2 < (t132.length : Int)) = false := decide_eq_false c11
              clear c11
              have H' := Aside0.mk H
              clear H
              go_wp2
              go_loopg [8, 42] k2 (fun kq v8 v42 w' => ∃ (x8_3 : List Int) (x42_3 : Int), v42 = .int .i64 x42_3 ∧ Aside0 (texts_Put.l1 kq t132 x5_2 x8_3 l0 (l0.length : Int) x42_3 = some (r1, r2)) ∧ Aside0 (kq ≤ k2) ∧ Aside0 (Kd.R Kd.string 9 w' w.heap.size (fun _ => True) (.slice Ao9 t132.length co9) t132) ∧ Aside0 (Kd.R (Kd.int .u8) 5 w' w.heap.size (fun _ => True) u5 x5_2) ∧ Aside0 (Kd.R (Kd.int .u64) 69 w' w.heap.size (fun _ => True) v8 x8_3) ∧ Aside0 (Below w.heap.size w w'))
              case atStart => exact ⟨(([] : List Int)), (0), (by first | rfl | (simp; done) | (simp [*]; done)), H', ⟨Nat.le_refl _⟩, ⟨by (with_reducible repeat (first | apply Kd.R_alloc | apply Kd.R_drewN | apply Kd.R_drew)); exact HO_4.out⟩, ⟨by (with_reducible repeat (first | apply Kd.R_alloc | apply Kd.R_drewN | apply Kd.R_drew)); exact HO_5.out⟩, ⟨by first | exact Kd.R_nil _ _ _ _ _ | exact Kd.N_nil _ _ _ _ _ | exact Kd.V_nil _ _ _ _ _ | exact Kd.Q_nil _ _ _ _ _ | exact Kd.S_nil _ _ _ _ _⟩, ⟨by repeat (first | (with_reducible first | exact HB.out | apply below_alloc | apply pw_below_drewN | apply below_drew1) | exact HB.out)⟩⟩
              case round =>
                clear H'
                try clear c1
                try clear p1
                try clear q1
                try clear hx1
                try clear c2
                try clear p2
                try clear c3
                try clear c3b0
                try clear c3b1
                try clear c5
                try clear p6
                try clear c9
                try clear c11
                try clear c11b0
                try clear c12
                try clear c12b0
                try clear c13
                try clear c13b0
                try clear p13
                try clear q13
                try clear hx13
                try clear hx138_0
                try clear p138
                try clear p2
                try clear q138
                obtain ⟨x8_3, x42_3, rfl, HA, HK3, HO_4, HO_5, HO_8, HB⟩ := hrel
                cases gk with
                | zero => exact absurd HA.out (by simp [texts_Put.l1])
                | succ k3 =>
                  have H := HA.out
                  clear HA
                  simp only [texts_Put.l1] at H
                  by_cases c17 : x42_3 < (l0.length : Int)
                  · rw [if_pos c17] at H
                    have c17b0 : decide (x42_3 < (l0.length : Int)) = true := decide_eq_true c17
                    clear c17
                    by_cases c18 : 0 ≤ x42_3
                    · rw [if_pos c18] at H
                      have c18b0 : decide (0 ≤ x42_3) = true := decide_eq_true c18
                      clear c18
                      by_cases c19 : x42_3 < (l0.length : Int)
                      · rw [if_pos c19] at H
                        have c19b0 : decide (x42_3 < (l0.length : Int)) = true := decide_eq_true c19
                        clear c19
                        replace H := Option.bind_eq_some_iff.mp H
                        obtain ⟨⟨t143, t144⟩, A200, H⟩ := H
                        replace H : (if x8_3.length < 17592186044416 then (texts_Put.l1 k3 t132 x5_2 (x8_3 ++ [IntKind.u64.wrap (t143)]) l0 (l0.length : Int) (wrap64 (x42_3 + 1))) else (none)) = some (r1, r2) := H
                        have A20 := Aside0.mk A200
                        clear A200
                        by_cases c21 : x8_3.length < 17592186044416
                        · rw [if_pos c21] at H
                          have LMc21 := Aside0.mk c21
                          clear c21
                          obtain ⟨y145, hy145⟩ : ∃ y_ : List Int, y_ = (x8_3 ++ [IntKind.u64.wrap (t143)]) := ⟨_, rfl⟩
                          replace H : (texts_Put.l1 k3 t132 x5_2 y145 l0 (l0.length : Int) (wrap64 (x42_3 + 1))) = some (r1, r2) := by first | (rw [hy145]; with_reducible exact H) | (have H2_ := (Option.bind_some _ _).symm.trans H; rw [hy145]; with_reducible exact H2_) | (have H2_ := (Option.bind_some _ _).symm.trans H; with_reducible exact H2_) | with_reducible exact H | (rw [hy145]; exact H) | exact H
                          have Ny145 := Aside0.mk hy145
                          clear hy145
                          have H' := Aside0.mk H
                          clear H
                          have p142 : 0 ≤ (x42_3 : Int) := of_decide_eq_true (by first | (with_reducible assumption) | assumption)
                          have q142 : x42_3 < (l0.length : Int) := of_decide_eq_true (by first | (with_reducible assumption) | assumption)
                          obtain ⟨ad142, e142, hx142_0⟩ := Kd.at_string HR0.out x42_3 p142 q142
                          cases e142
                          replace hx142_0 := (HB.out.cell (World.block_lt_of_cell? w _ hx142_0)).trans hx142_0
                          replace p142 := eq_true p142
                          replace q142 := eq_true q142
                          go_wp2_with (first | ((with_reducible refine gate_callee (f := 28) rfl ?_); refine goesL_ (some 49) rfl rfl Tryd.func28 (by kernel_rfl) rfl #[.slice Ao9 t132.length co9, .string (rdOf ByteArray.empty l0 x42_3)] rfl (by (try simp only [List.map_toArray, List.map_cons, List.map_nil]); first | done | rfl | (simp only [List.length_drop, List.length_take]; rfl)) ?_; (with_reducible refine (slices_BinarySearch_string_string.calls k3 _ _ t132 (rdOf ByteArray.empty l0 x42_3) t143 t144 _ ?side1 ?side2 A20.out).mono ?_); (case side1 => repeat (first | exact (Kd.R_reads' HO_4.out).2.2 | (with_reducible refine Kd.C_alloc ?_ _) | (with_reducible refine Kd.C_drewN ?_ _) | (with_reducible refine Kd.C_drew ?_))); (case side2 => exact (Kd.R_reads' HO_4.out).2.1); rintro e w' ⟨rfl, ⟨nd, rfl⟩⟩; refine ⟨_, rfl, ?_⟩) | ((with_reducible refine gate_builtin (b := .append) (xs := #[.tmp 52, .tmp 55]) rfl ?_); at_builtin; refine Kd.R_append (Kd.int .u64) (w0 := w) w.heap.size rfl (.tmp 52) (.tmp 55) 71 69 (.int .u64 0) 8 rfl Tryd.underlying71 info69 rfl (by decide) (by omega) u8 x8_3 (IntKind.u64.wrap (t143)) [.int .u64 (IntKind.u64.wrap (t143))] (fun _ => True) (fun _ => False) rfl rfl ?aP (fun _ hk => hk.elim) ?aF ?aO ?aB ?aS ?aL ?_; (case aP => exact rfl); (case aB => exact (by repeat (first | (with_reducible first | exact HB.out | apply below_alloc | apply pw_below_drewN | apply below_drew1) | exact HB.out))); (case aF => exact (fun _ _ => trivial)); (case aO => exact (by (with_reducible repeat (first | apply Kd.R_alloc | apply Kd.R_drewN | apply Kd.R_drew)); exact HO_8.out)); (case aS => exact (below_size (by repeat (first | (with_reducible first | exact HB.out | apply below_alloc | apply pw_below_drewN | apply below_drew1) | exact HB.out)))); (case aL => have := LMc21.out; omega); intro v146 w22 ho hb hg hat; rw [← Ny145.out] at ho; have n0_ := Aside0.mk (Kd.R_over' (by (with_reducible repeat (first | apply Kd.R_alloc | apply Kd.R_drewN | apply Kd.R_drew)); exact HO_4.out) (Kd.R_typed (by (with_reducible repeat (first | apply Kd.R_alloc | apply Kd.R_drewN | apply Kd.R_drew)); exact HO_8.out)) (by decide) hg); have n1_ := Aside0.mk (Kd.R_over' (by (with_reducible repeat (first | apply Kd.R_alloc | apply Kd.R_drewN | apply Kd.R_drew)); exact HO_5.out) (Kd.R_typed (by (with_reducible repeat (first | apply Kd.R_alloc | apply Kd.R_drewN | apply Kd.R_drew)); exact HO_8.out)) (by decide) hg); have n2_ := Aside0.mk (hb); have n3_ := Aside0.mk (ho); clear HO_4; clear HO_5; clear HB; clear HO_8; have HO_4 := n0_; have HO_5 := n1_; have HB := n2_; have HO147 := n3_; clear n0_ n1_ n2_ n3_; clear ho hb hg hat))
                          go_roundg k3
                          case measure => have := HJ1.out; have := HK2.out; have := HK3.out; omega
                          case rel => exact ⟨(y145), (wrap64 (x42_3 + 1)), (by first | rfl | (simp; done) | (simp [*]; done)), H', ⟨by have := HJ1.out; have := HK2.out; have := HK3.out; omega⟩, ⟨by (with_reducible repeat (first | apply Kd.R_alloc | apply Kd.R_drewN | apply Kd.R_drew)); exact HO_4.out⟩, ⟨by (with_reducible repeat (first | apply Kd.R_alloc | apply Kd.R_drewN | apply Kd.R_drew)); exact HO_5.out⟩, ⟨by (with_reducible repeat (first | apply Kd.R_alloc | apply Kd.R_drewN | apply Kd.R_drew)); exact HO147.out⟩, ⟨by repeat (first | (with_reducible first | exact HB.out | apply below_alloc | apply pw_below_drewN | apply below_drew1) | exact HB.out)⟩⟩
                        · rw [if_neg c21] at H
                          exact absurd H (by simp)
                      · rw [if_neg c19] at H
                        exact absurd H (by simp)
                    · rw [if_neg c18] at H
                      exact absurd H (by simp)
                  · rw [if_neg c17] at H
                    have c17b0 : decide (x42_3 < (l0.length : Int)) = false := decide_eq_false c17
                    clear c17
                    replace H := Option.bind_eq_some_iff.mp H
                    obtain ⟨t148, A230, H⟩ := H
                    replace H : ((bits_Pack.f k3 x8_3 t148).bind fun bt149 => (if x5_2.length < 140737488355328 then ((some (x5_2 ++ [(t148) % 256] : List Int)).bind fun y153 => (if y153.length + bt149.1.length < 140737488355328 then (some ((y153 ++ bt149.1), bt149.2)) else (none))) else (none))) = some (r1, r2) := H
                    have A23 := Aside0.mk A230
                    clear A230
                    replace H := Option.bind_eq_some_iff.mp H
                    obtain ⟨⟨t149, t150⟩, A240, H⟩ := H
                    replace H : (if x5_2.length < 140737488355328 then ((some (x5_2 ++ [(t148) % 256] : List Int)).bind fun y153 => (if y153.length + t149.length < 140737488355328 then (some ((y153 ++ t149), t150)) else (none))) else (none)) = some (r1, r2) := H
                    have A24 := Aside0.mk A240
                    clear A240
                    by_cases c25 : x5_2.length < 140737488355328
                    · rw [if_pos c25] at H
                      have LMc25 := Aside0.mk c25
                      clear c25
                      obtain ⟨y153, hy153⟩ : ∃ y_ : List Int, y_ = (x5_2 ++ [(t148) % 256]) := ⟨_, rfl⟩
                      replace H : (if y153.length + t149.length < 140737488355328 then (some ((y153 ++ t149), t150)) else (none)) = some (r1, r2) := by first | (rw [hy153]; with_reducible exact H) | (have H2_ := (Option.bind_some _ _).symm.trans H; rw [hy153]; with_reducible exact H2_) | (have H2_ := (Option.bind_some _ _).symm.trans H; with_reducible exact H2_) | with_reducible exact H | (rw [hy153]; exact H) | exact H
                      have Ny153 := Aside0.mk hy153
                      clear hy153
                      by_cases c26 : y153.length + t149.length < 140737488355328
                      · rw [if_pos c26] at H
                        have LMc26 := Aside0.mk c26
                        clear c26
                        obtain ⟨y156, hy156⟩ : ∃ y_ : List Int, y_ = (y153 ++ t149) := ⟨_, rfl⟩
                        replace H : (some (y156, t150)) = some (r1, r2) := by first | (rw [hy156]; with_reducible exact H) | (have H2_ := (Option.bind_some _ _).symm.trans H; rw [hy156]; with_reducible exact H2_) | (have H2_ := (Option.bind_some _ _).symm.trans H; with_reducible exact H2_) | with_reducible exact H | (rw [hy156]; exact H) | exact H
                        have Ny156 := Aside0.mk hy156
                        clear hy156
                        simp only [Option.some.injEq, Prod.mk.injEq] at H
                        obtain ⟨rfl, rfl⟩ := H
                        go_wp2_with (first | ((with_reducible refine gate_callee (f := 29) rfl ?_); refine goesL_ (some 60) rfl rfl Tryd.func29 (by kernel_rfl) rfl #[.int .i64 (t132.length : Int)] rfl (by (try simp only [List.map_toArray, List.map_cons, List.map_nil]); first | done | rfl | (simp only [List.length_drop, List.length_take]; rfl)) ?_; (with_reducible refine (texts_width.calls (t132.length : Int) t148 _ A23.out).mono ?_); rintro e w27 ⟨rfl, hb⟩; refine ⟨_, rfl, ?_⟩; have n0_ := Aside0.mk (Kd.R_below (by (with_reducible repeat (first | apply Kd.R_alloc | apply Kd.R_drewN | apply Kd.R_drew)); exact HO_4.out) hb); have n1_ := Aside0.mk (Kd.R_below (by (with_reducible repeat (first | apply Kd.R_alloc | apply Kd.R_drewN | apply Kd.R_drew)); exact HO_5.out) hb); have n2_ := Aside0.mk (Kd.R_below (by (with_reducible repeat (first | apply Kd.R_alloc | apply Kd.R_drewN | apply Kd.R_drew)); exact HO_8.out) hb); have n3_ := Aside0.mk (below_step (by repeat (first | (with_reducible first | exact HB.out | apply below_alloc | apply pw_below_drewN | apply below_drew1) | exact HB.out)) hb); clear HO_4; clear HO_5; clear HO_8; clear HB; have HO_4 := n0_; have HO_5 := n1_; have HO_8 := n2_; have HB := n3_; clear n0_ n1_ n2_ n3_; (try clear hb); (try clear hb2); (try clear hk); (try clear hi); obtain ⟨Ao28, co28, eo28⟩ := Kd.R_slice HO_8.out; subst eo28) | ((with_reducible refine gate_callee (f := 30) rfl ?_); refine goesL_ (some 64) rfl rfl Tryd.func30 (by kernel_rfl) rfl #[.slice Ao28 x8_3.length co28, .int .i64 t148] rfl (by (try simp only [List.map_toArray, List.map_cons, List.map_nil]); first | done | rfl | (simp only [List.length_drop, List.length_take]; rfl)) ?_; (with_reducible refine (bits_Pack.calls k3 _ _ x8_3 t148 t149 t150 _ ?side1 ?side2 A24.out).mono ?_); (case side1 => repeat (first | exact (Kd.R_reads' HO_8.out).2.2 | (with_reducible refine Kd.C_alloc ?_ _) | (with_reducible refine Kd.C_drewN ?_ _) | (with_reducible refine Kd.C_drew ?_))); (case side2 => exact (Kd.R_reads' HO_8.out).2.1); rintro e w29 ⟨v151, rfl, ho0, hb⟩; refine ⟨_, rfl, ?_⟩; have n0_ := Aside0.mk (Kd.R_below (by (with_reducible repeat (first | apply Kd.R_alloc | apply Kd.R_drewN | apply Kd.R_drew)); exact HO_4.out) hb); have n1_ := Aside0.mk (Kd.R_elder' (by (with_reducible repeat (first | apply Kd.R_alloc | apply Kd.R_drewN | apply Kd.R_drew)); exact HO_5.out) (Kd.R_base ho0) hb); have n2_ := Aside0.mk (Kd.R_below (by (with_reducible repeat (first | apply Kd.R_alloc | apply Kd.R_drewN | apply Kd.R_drew)); exact HO_8.out) hb); have n3_ := Aside0.mk (Kd.R_lower (Kd.R_new' ho0 (Kd.R_lt (by (with_reducible repeat (first | apply Kd.R_alloc | apply Kd.R_drewN | apply Kd.R_drew)); exact HO_5.out))) (below_size (by repeat (first | (with_reducible first | exact HB.out | apply below_alloc | apply pw_below_drewN | apply below_drew1) | exact HB.out)))); have n4_ := Aside0.mk (below_step (by repeat (first | (with_reducible first | exact HB.out | apply below_alloc | apply pw_below_drewN | apply below_drew1) | exact HB.out)) hb); clear HO_4; clear HO_5; clear HO_8; clear HB; have HO_4 := n0_; have HO_5 := n1_; have HO_8 := n2_; have HO152 := n3_; have HB := n4_; clear n0_ n1_ n2_ n3_ n4_; (try clear hb); (try clear hb2); (try clear hk); (try clear hi); (try clear ho0)) | ((with_reducible refine gate_builtin (b := .append) (xs := #[.tmp 67, .tmp 70]) rfl ?_); at_builtin; refine Kd.R_append (Kd.int .u8) (w0 := w) w.heap.size rfl (.tmp 67) (.tmp 70) 23 5 (.int .u8 0) 1 rfl Tryd.underlying23 info5 rfl (by decide) (by omega) u5 x5_2 ((t148) % 256) [.int .u8 ((t148) % 256)] (fun k_ => some k_ ≠ (v151 : Value).ownBlock) (fun _ => False) rfl rfl ?aP (fun _ hk => hk.elim) ?aF ?aO ?aB ?aS ?aL ?_; (case aP => exact rfl); (case aB => exact (by repeat (first | (with_reducible first | exact HB.out | apply below_alloc | apply pw_below_drewN | apply below_drew1) | exact HB.out))); (case aF => exact (fun k_ hk => Kd.fresh' (Kd.R_lt (by (with_reducible repeat (first | apply Kd.R_alloc | apply Kd.R_drewN | apply Kd.R_drew)); exact HO152.out)) k_ hk)); (case aO => exact (by (with_reducible repeat (first | apply Kd.R_alloc | apply Kd.R_drewN | apply Kd.R_drew)); exact Kd.R_mono HO_5.out (fun _ hk => hk.2))); (case aS => exact (below_size (by repeat (first | (with_reducible first | exact HB.out | apply below_alloc | apply pw_below_drewN | apply below_drew1) | exact HB.out)))); (case aL => have := LMc25.out; omega); intro v154 w30 ho hb hg hat; rw [← Ny153.out] at ho; have n0_ := Aside0.mk (Kd.R_over' (by (with_reducible repeat (first | apply Kd.R_alloc | apply Kd.R_drewN | apply Kd.R_drew)); exact HO_4.out) (Kd.R_typed (by (with_reducible repeat (first | apply Kd.R_alloc | apply Kd.R_drewN | apply Kd.R_drew)); exact HO_5.out)) (by decide) hg); have n1_ := Aside0.mk (Kd.R_over' (by (with_reducible repeat (first | apply Kd.R_alloc | apply Kd.R_drewN | apply Kd.R_drew)); exact HO_8.out) (Kd.R_typed (by (with_reducible repeat (first | apply Kd.R_alloc | apply Kd.R_drewN | apply Kd.R_drew)); exact HO_5.out)) (by decide) hg); have n2_ := Aside0.mk (Kd.R_after (ok := (fun _ => True)) (by (with_reducible repeat (first | apply Kd.R_alloc | apply Kd.R_drewN | apply Kd.R_drew)); exact HO152.out) hg hat); have n3_ := Aside0.mk (hb); have n4_ := Aside0.mk (ho); clear HO_4; clear HO_8; clear HO152; clear HB; clear HO_5; have HO_4 := n0_; have HO_8 := n1_; have HO152 := n2_; have HB := n3_; have HO155 := n4_; clear n0_ n1_ n2_ n3_ n4_; clear ho hb hg hat; obtain ⟨Ao32, co32, eo32⟩ := Kd.R_slice HO152.out; subst eo32) | ((with_reducible refine gate_builtin (b := .append) (xs := #[.tmp 71, .tmp 72]) rfl ?_); at_builtin; refine Kd.R_append_rows (Kd.int .u8) (w0 := w) w.heap.size rfl (.tmp 71) (.tmp 72) 23 5 (.int .u8 0) 1 rfl Tryd.underlying23 info5 rfl (by decide) (by omega) v154 y153 t149 _ _ _ (fun k_ => some k_ ≠ (.slice Ao32 t149.length co32 : Value).ownBlock) (fun _ => False) rfl rfl ?aO ?aR (fun _ _ h => h) (fun _ h => h.elim) ?aF ?aB ?aS ?aL ?_; (case aR => repeat (first | exact (Kd.R_reads' HO152.out).2.2 | (with_reducible refine Kd.C_alloc ?_ _) | (with_reducible refine Kd.C_drewN ?_ _) | (with_reducible refine Kd.C_drew ?_))); (case aB => exact (by repeat (first | (with_reducible first | exact HB.out | apply below_alloc | apply pw_below_drewN | apply below_drew1) | exact HB.out))); (case aF => exact (fun k_ hk => Kd.fresh' (Kd.R_lt (by (with_reducible repeat (first | apply Kd.R_alloc | apply Kd.R_drewN | apply Kd.R_drew)); exact HO152.out)) k_ hk)); (case aO => exact (by (with_reducible repeat (first | apply Kd.R_alloc | apply Kd.R_drewN | apply Kd.R_drew)); exact HO155.out)); (case aS => exact (below_size (by repeat (first | (with_reducible first | exact HB.out | apply below_alloc | apply pw_below_drewN | apply below_drew1) | exact HB.out)))); (case aL => have := LMc26.out; omega); intro v157 w31 ho hb hg hat; rw [← Ny156.out] at ho; have n0_ := Aside0.mk (Kd.R_over' (by (with_reducible repeat (first | apply Kd.R_alloc | apply Kd.R_drewN | apply Kd.R_drew)); exact HO_4.out) (Kd.R_typed (by (with_reducible repeat (first | apply Kd.R_alloc | apply Kd.R_drewN | apply Kd.R_drew)); exact HO155.out)) (by decide) hg); have n1_ := Aside0.mk (Kd.R_over' (by (with_reducible repeat (first | apply Kd.R_alloc | apply Kd.R_drewN | apply Kd.R_drew)); exact HO_8.out) (Kd.R_typed (by (with_reducible repeat (first | apply Kd.R_alloc | apply Kd.R_drewN | apply Kd.R_drew)); exact HO155.out)) (by decide) hg); have n2_ := Aside0.mk (Kd.R_after (ok := (fun _ => True)) (by (with_reducible repeat (first | apply Kd.R_alloc | apply Kd.R_drewN | apply Kd.R_drew)); exact HO152.out) hg hat); have n3_ := Aside0.mk (hb); have n4_ := Aside0.mk (ho); clear HO_4; clear HO_8; clear HO152; clear HB; clear HO155; have HO_4 := n0_; have HO_8 := n1_; have HO152 := n2_; have HB := n3_; have HO158 := n4_; clear n0_ n1_ n2_ n3_ n4_; clear ho hb hg hat))
                        go_ret2
                        exact ⟨_, by first | rfl | (simp [errW_none, errW_some] <;> rfl) | (simp [*, errW_none, errW_some] <;> rfl), by (with_reducible repeat (first | apply Kd.R_alloc | apply Kd.R_drewN | apply Kd.R_drew)); exact Kd.R_mono HO158.out (fun _ hk => trivial), by repeat (first | (with_reducible first | exact HB.out | apply below_alloc | apply pw_below_drewN | apply below_drew1) | exact HB.out)⟩
                      · rw [if_neg c26] at H
                        exact absurd H (by simp)
                    · rw [if_neg c25] at H
                      exact absurd H (by simp)

/-! ### estreatref01_Same: function 12 -/
def estreatref01_Same.l0 : Nat → List Int → List Int → Int → Option (Bool)
  | 0, _, _, _ => none
  | k + 1, x0, x1, x5 => if x5 < (x0.length : Int) then (if 0 ≤ x5 then (if x5 < (x1.length : Int) then (if (rd x0 x5) = (rd x1 x5) then (estreatref01_Same.l0 k x0 x1 (wrap64 (x5 + 1))) else (some false)) else (none)) else (none)) else (some true)
def estreatref01_Same.f (k : Nat) (l0 : List Int) (l1 : List Int) : Option (Bool) := if (l0.length : Int) = (l1.length : Int) then (estreatref01_Same.l0 k l0 l1 0) else (some false)
set_option maxHeartbeats 8000000 in
set_option maxRecDepth 100000 in
theorem estreatref01_Same.calls (k : Nat) (A0 : Option Addr) (c0 : Nat) (l0 : List Int) (A1 : Option Addr) (c1 : Nat) (l1 : List Int) (r : Bool) (w : World) (hr0 : Kd.C (Kd.int .u8) w A0 l0.length l0) (hc0 : l0.length ≤ c0) (hr1 : Kd.C (Kd.int .u8) w A1 l1.length l1) (hc1 : l1.length ≤ c1) (h : estreatref01_Same.f k l0 l1 = some r) :
    Calls Tryd.prog 12 #[.slice A0 l0.length c0, .slice A1 l1.length c1] w fun e w' => e = .returned (.bool r) ∧ Drawn0 w w' := by
  have HR0 := Aside0.mk hr0
  have HC0 := Aside0.mk hc0
  clear hr0 hc0
  have HR1 := Aside0.mk hr1
  have HC1 := Aside0.mk hc1
  clear hr1 hc1
  have H : (if (l0.length : Int) = (l1.length : Int) then (estreatref01_Same.l0 k l0 l1 0) else (some false)) = some r := h
  clear h
  by_cases c3 : (l0.length : Int) = (l1.length : Int)
  · rw [if_pos c3] at H
    have c3b0 : ((l0.length : Int) == (l1.length : Int)) = true := beq_iff_eq.mpr c3
    have c3b1 : ((l0.length : Int) != (l1.length : Int)) = false := bne_eq_false_iff_eq.mpr c3
    have c3b2 : (l0.length == l1.length) = true := by first | simpa using c3 | (simp at c3 ⊢; omega)
    clear c3
    have H' := Aside0.mk H
    clear H
    go_enter Tryd.func12, Tryd.ntmps12
    go_wp2
    repeat (go_quiet (fail); try go_wp2)
    go_loopg [5] k (fun kq v5 w' => ∃ (x5_1 : Int), v5 = .int .i64 x5_1 ∧ Aside0 (estreatref01_Same.l0 kq l0 l1 x5_1 = some r) ∧ Aside0 (kq ≤ k) ∧ Drawn0 w w')
    case atStart => exact ⟨(0), (by first | rfl | (simp; done) | (simp [*]; done)), H', ⟨Nat.le_refl _⟩, by repeat (first | exact Drawn0.refl _ | apply Drawn0.step)⟩
    case round =>
      clear H'
      try clear c1
      try clear p2
      try clear c3
      try clear c3b0
      try clear c3b1
      try clear c3b2
      obtain ⟨x5_1, rfl, HA, HK1, ⟨m1, rfl⟩⟩ := hrel
      cases gk with
      | zero => exact absurd HA.out (by simp [estreatref01_Same.l0])
      | succ k1 =>
        have H := HA.out
        clear HA
        simp only [estreatref01_Same.l0] at H
        by_cases c4 : x5_1 < (l0.length : Int)
        · rw [if_pos c4] at H
          have c4b0 : decide (x5_1 < (l0.length : Int)) = true := decide_eq_true c4
          clear c4
          by_cases c5 : 0 ≤ x5_1
          · rw [if_pos c5] at H
            have c5b0 : decide (0 ≤ x5_1) = true := decide_eq_true c5
            clear c5
            by_cases c6 : x5_1 < (l1.length : Int)
            · rw [if_pos c6] at H
              have c6b0 : decide (x5_1 < (l1.length : Int)) = true := decide_eq_true c6
              clear c6
              by_cases c7 : (rd l0 x5_1) = (rd l1 x5_1)
              · rw [if_pos c7] at H
                have c7b0 : ((rd l0 x5_1) == (rd l1 x5_1)) = true := beq_iff_eq.mpr c7
                have c7b1 : ((rd l0 x5_1) != (rd l1 x5_1)) = false := bne_eq_false_iff_eq.mpr c7
                clear c7
                have H' := Aside0.mk H
                clear H
                have p159 : 0 ≤ (x5_1 : Int) := of_decide_eq_true (by first | (with_reducible assumption) | assumption)
                have q159 : x5_1 < (l0.length : Int) := of_decide_eq_true (by first | (with_reducible assumption) | assumption)
                obtain ⟨ad159, e159, hx159_0⟩ := Kd.at_int HR0.out x5_1 p159 q159
                cases e159
                replace p159 := eq_true p159
                replace q159 := eq_true q159
                have p160 : 0 ≤ (x5_1 : Int) := of_decide_eq_true (by first | (with_reducible assumption) | assumption)
                have q160 : x5_1 < (l1.length : Int) := of_decide_eq_true (by first | (with_reducible assumption) | assumption)
                obtain ⟨ad160, e160, hx160_0⟩ := Kd.at_int HR1.out x5_1 p160 q160
                cases e160
                replace p160 := eq_true p160
                replace q160 := eq_true q160
                go_wp2
                repeat (go_quiet (fail); try go_wp2)
                go_roundg k1
                case measure => have := HK1.out; omega
                case rel => exact ⟨(wrap64 (x5_1 + 1)), (by first | rfl | (simp; done) | (simp [*]; done)), H', ⟨by have := HK1.out; omega⟩, by repeat (first | exact Drawn0.refl _ | apply Drawn0.step)⟩
              · rw [if_neg c7] at H
                have c7b0 : ((rd l0 x5_1) == (rd l1 x5_1)) = false := beq_eq_false_iff_ne.mpr c7
                have c7b1 : ((rd l0 x5_1) != (rd l1 x5_1)) = true := bne_iff_ne.mpr c7
                obtain rfl := Option.some.inj H
                have p159 : 0 ≤ (x5_1 : Int) := of_decide_eq_true (by first | (with_reducible assumption) | assumption)
                have q159 : x5_1 < (l0.length : Int) := of_decide_eq_true (by first | (with_reducible assumption) | assumption)
                obtain ⟨ad159, e159, hx159_0⟩ := Kd.at_int HR0.out x5_1 p159 q159
                cases e159
                replace p159 := eq_true p159
                replace q159 := eq_true q159
                have p160 : 0 ≤ (x5_1 : Int) := of_decide_eq_true (by first | (with_reducible assumption) | assumption)
                have q160 : x5_1 < (l1.length : Int) := of_decide_eq_true (by first | (with_reducible assumption) | assumption)
                obtain ⟨ad160, e160, hx160_0⟩ := Kd.at_int HR1.out x5_1 p160 q160
                cases e160
                replace p160 := eq_true p160
                replace q160 := eq_true q160
                go_wp2
                repeat (go_quiet (fail); try go_wp2)
                go_ret
                exact ⟨by first | rfl | (simp; done) | (simp [*]; done), by repeat (first | exact Drawn0.refl _ | apply Drawn0.step)⟩
            · rw [if_neg c6] at H
              exact absurd H (by simp)
          · rw [if_neg c5] at H
            exact absurd H (by simp)
        · rw [if_neg c4] at H
          have c4b0 : decide (x5_1 < (l0.length : Int)) = false := decide_eq_false c4
          clear c4
          obtain rfl := Option.some.inj H
          go_wp2
          repeat (go_quiet (fail); try go_wp2)
          go_ret
          exact ⟨by first | rfl | (simp; done) | (simp [*]; done), by repeat (first | exact Drawn0.refl _ | apply Drawn0.step)⟩
  · rw [if_neg c3] at H
    have c3b0 : ((l0.length : Int) == (l1.length : Int)) = false := beq_eq_false_iff_ne.mpr c3
    have c3b1 : ((l0.length : Int) != (l1.length : Int)) = true := bne_iff_ne.mpr c3
    have c3b2 : (l0.length == l1.length) = false := by first | simpa using c3 | (simp at c3 ⊢; omega)
    obtain rfl := Option.some.inj H
    go_enter Tryd.func12, Tryd.ntmps12
    go_wp2
    repeat (go_quiet (fail); try go_wp2)
    go_ret
    exact ⟨by first | rfl | (simp; done) | (simp [*]; done), by repeat (first | exact Drawn0.refl _ | apply Drawn0.step)⟩

/-! ### estreatlaw13_awake: function 8 -/
def estreatlaw13_awake.f (k : Nat)  : Option (Bool) := (texts_Put.f k (([(⟨#[98]⟩ : ByteArray), (⟨#[97]⟩ : ByteArray), (⟨#[98]⟩ : ByteArray)] : List ByteArray))).bind fun bt164 => ((estreatref01_Same.f k bt164.1 (([2, 1, 97, 1, 98, 1, 5] : List Int))).bind fun t171 => (if t171 = true then (some (bt164.2 == 0)) else (some false)))
set_option maxHeartbeats 8000000 in
set_option maxRecDepth 100000 in
theorem estreatlaw13_awake.calls (k : Nat)  (r : Bool) (w : World) (h : estreatlaw13_awake.f k  = some r) :
    Calls Tryd.prog 8 #[] w fun e w' => e = .returned (.bool r) ∧ Below w.heap.size w w' := by
  have HB := Aside0.mk (Below.refl w.heap.size w)
  have H : ((texts_Put.f k (([(⟨#[98]⟩ : ByteArray), (⟨#[97]⟩ : ByteArray), (⟨#[98]⟩ : ByteArray)] : List ByteArray))).bind fun bt164 => ((estreatref01_Same.f k bt164.1 (([2, 1, 97, 1, 98, 1, 5] : List Int))).bind fun t171 => (if t171 = true then (some (bt164.2 == 0)) else (some false)))) = some r := h
  clear h
  obtain ⟨y161, hy161⟩ : ∃ y_ : List ByteArray, y_ = (([(⟨#[98]⟩ : ByteArray), (⟨#[97]⟩ : ByteArray), (⟨#[98]⟩ : ByteArray)] : List ByteArray)) := ⟨_, rfl⟩
  replace H : ((texts_Put.f k y161).bind fun bt164 => ((estreatref01_Same.f k bt164.1 (([2, 1, 97, 1, 98, 1, 5] : List Int))).bind fun t171 => (if t171 = true then (some (bt164.2 == 0)) else (some false)))) = some r := by first | (rw [hy161]; with_reducible exact H) | (have H2_ := (Option.bind_some _ _).symm.trans H; rw [hy161]; with_reducible exact H2_) | (have H2_ := (Option.bind_some _ _).symm.trans H; with_reducible exact H2_) | with_reducible exact H | (rw [hy161]; exact H) | exact H
  have Ny161 := Aside0.mk hy161
  clear hy161
  replace H := Option.bind_eq_some_iff.mp H
  obtain ⟨⟨t164, t165⟩, A10, H⟩ := H
  replace H : ((estreatref01_Same.f k t164 (([2, 1, 97, 1, 98, 1, 5] : List Int))).bind fun t171 => (if t171 = true then (some (t165 == 0)) else (some false))) = some r := H
  have A1 := Aside0.mk A10
  clear A10
  obtain ⟨y168, hy168⟩ : ∃ y_ : List Int, y_ = (([2, 1, 97, 1, 98, 1, 5] : List Int)) := ⟨_, rfl⟩
  replace H : ((estreatref01_Same.f k t164 y168).bind fun t171 => (if t171 = true then (some (t165 == 0)) else (some false))) = some r := by first | (rw [hy168]; with_reducible exact H) | (have H2_ := (Option.bind_some _ _).symm.trans H; rw [hy168]; with_reducible exact H2_) | (have H2_ := (Option.bind_some _ _).symm.trans H; with_reducible exact H2_) | with_reducible exact H | (rw [hy168]; exact H) | exact H
  have Ny168 := Aside0.mk hy168
  clear hy168
  replace H := Option.bind_eq_some_iff.mp H
  obtain ⟨t171, A20, H⟩ := H
  replace H : (if t171 = true then (some (t165 == 0)) else (some false)) = some r := H
  have A2 := Aside0.mk A20
  clear A20
  by_cases c3 : t171 = true
  · subst c3
    have H1 : (some (t165 == 0)) = some r := by rw [if_pos rfl] at H; exact H
    clear H
    have H := H1
    clear H1
    obtain rfl := Option.some.inj H
    go_enter Tryd.func8, Tryd.ntmps8
    go_wp2_with (first | ((with_reducible refine gate_dst (N := 4) rfl ?_); refine Kd.R_lit Kd.string _ 9 ?hg (N := 4) ?hd (xs := ([(⟨#[98]⟩ : ByteArray), (⟨#[97]⟩ : ByteArray), (⟨#[98]⟩ : ByteArray)] : List ByteArray)) (inner := [.string (⟨#[98]⟩ : ByteArray), .string (⟨#[97]⟩ : ByteArray), .string (⟨#[98]⟩ : ByteArray)]) (ok := fun _ => True) (okp := fun _ => True) ?hr ?hp (fun _ hk => hk) trivial (Below.refl _ _) (Nat.le_refl _) (by simp) ?_; (case hd => rfl); (case hg => rfl); (case hr => first | (go_simp; done) | (go_simp; rfl)); (case hp => exact (Reps.one (show Kd.M Kd.string _ _ _ (⟨#[98]⟩ : ByteArray) [.string (⟨#[98]⟩ : ByteArray)] from rfl) (Reps.one (show Kd.M Kd.string _ _ _ (⟨#[97]⟩ : ByteArray) [.string (⟨#[97]⟩ : ByteArray)] from rfl) (Reps.one (show Kd.M Kd.string _ _ _ (⟨#[98]⟩ : ByteArray) [.string (⟨#[98]⟩ : ByteArray)] from rfl) (Reps.none _ _))))); intro v162 w4 ho5 hb hg_ hnew_; clear hg_ hnew_; (first | rw [← Ny161.out] at ho5 | (simp only [Int.reduceToNat] at ho5; rw [← Ny161.out] at ho5)); have n0_ := Aside0.mk (Kd.R_lower ho5 (below_size (by repeat (first | (with_reducible first | exact HB.out | apply below_alloc | apply pw_below_drewN | apply below_drew1) | exact HB.out)))); have n1_ := Aside0.mk (below_step (by repeat (first | (with_reducible first | exact HB.out | apply below_alloc | apply pw_below_drewN | apply below_drew1) | exact HB.out)) hb); clear HB; have HO163 := n0_; have HB := n1_; clear n0_ n1_; clear hb ho5; obtain ⟨Ao6, co6, eo6⟩ := Kd.R_slice HO163.out; subst eo6) | ((with_reducible refine gate_callee (f := 9) rfl ?_); refine goesL_ (some 5) rfl rfl Tryd.func9 (by kernel_rfl) rfl #[.slice Ao6 y161.length co6] rfl (by (try simp only [List.map_toArray, List.map_cons, List.map_nil]); first | done | rfl | (simp only [List.length_drop, List.length_take]; rfl)) ?_; (with_reducible refine (texts_Put.calls k _ _ y161 t164 t165 _ ?side1 ?side2 A1.out).mono ?_); (case side1 => repeat (first | exact (Kd.R_reads' HO163.out).2.2 | (with_reducible refine Kd.C_alloc ?_ _) | (with_reducible refine Kd.C_drewN ?_ _) | (with_reducible refine Kd.C_drew ?_))); (case side2 => exact (Kd.R_reads' HO163.out).2.1); rintro e w7 ⟨v166, rfl, ho0, hb⟩; refine ⟨_, rfl, ?_⟩; have n0_ := Aside0.mk (Kd.R_below (by (with_reducible repeat (first | apply Kd.R_alloc | apply Kd.R_drewN | apply Kd.R_drew)); exact HO163.out) hb); have n1_ := Aside0.mk (Kd.R_lower ho0 (below_size (by repeat (first | (with_reducible first | exact HB.out | apply below_alloc | apply pw_below_drewN | apply below_drew1) | exact HB.out)))); have n2_ := Aside0.mk (below_step (by repeat (first | (with_reducible first | exact HB.out | apply below_alloc | apply pw_below_drewN | apply below_drew1) | exact HB.out)) hb); clear HO163; clear HB; have HO163 := n0_; have HO167 := n1_; have HB := n2_; clear n0_ n1_ n2_; (try clear hb); (try clear hb2); (try clear hk); (try clear hi); (try clear ho0)) | ((with_reducible refine gate_dst (N := 9) rfl ?_); refine Kd.R_lit (Kd.int .u8) _ 5 ?hg (N := 9) ?hd (xs := ([2, 1, 97, 1, 98, 1, 5] : List Int)) (inner := [.int .u8 2, .int .u8 1, .int .u8 97, .int .u8 1, .int .u8 98, .int .u8 1, .int .u8 5]) (ok := fun _ => True) (okp := fun _ => True) ?hr ?hp (fun _ hk => hk) trivial (Below.refl _ _) (Nat.le_refl _) (by simp) ?_; (case hd => rfl); (case hg => rfl); (case hr => first | (go_simp; done) | (go_simp; rfl)); (case hp => exact (Reps.one (show Kd.M (Kd.int .u8) _ _ _ 2 [.int .u8 2] from rfl) (Reps.one (show Kd.M (Kd.int .u8) _ _ _ 1 [.int .u8 1] from rfl) (Reps.one (show Kd.M (Kd.int .u8) _ _ _ 97 [.int .u8 97] from rfl) (Reps.one (show Kd.M (Kd.int .u8) _ _ _ 1 [.int .u8 1] from rfl) (Reps.one (show Kd.M (Kd.int .u8) _ _ _ 98 [.int .u8 98] from rfl) (Reps.one (show Kd.M (Kd.int .u8) _ _ _ 1 [.int .u8 1] from rfl) (Reps.one (show Kd.M (Kd.int .u8) _ _ _ 5 [.int .u8 5] from rfl) (Reps.none _ _))))))))); intro v169 w8 ho9 hb hg_ hnew_; clear hg_ hnew_; (first | rw [← Ny168.out] at ho9 | (simp only [Int.reduceToNat] at ho9; rw [← Ny168.out] at ho9)); have n0_ := Aside0.mk (Kd.R_below (by (with_reducible repeat (first | apply Kd.R_alloc | apply Kd.R_drewN | apply Kd.R_drew)); exact HO163.out) hb); have n1_ := Aside0.mk (Kd.R_elder' (by (with_reducible repeat (first | apply Kd.R_alloc | apply Kd.R_drewN | apply Kd.R_drew)); exact HO167.out) (Kd.R_base ho9) hb); have n2_ := Aside0.mk (Kd.R_lower (Kd.R_new' ho9 (Kd.R_lt (by (with_reducible repeat (first | apply Kd.R_alloc | apply Kd.R_drewN | apply Kd.R_drew)); exact HO167.out))) (below_size (by repeat (first | (with_reducible first | exact HB.out | apply below_alloc | apply pw_below_drewN | apply below_drew1) | exact HB.out)))); have n3_ := Aside0.mk (below_step (by repeat (first | (with_reducible first | exact HB.out | apply below_alloc | apply pw_below_drewN | apply below_drew1) | exact HB.out)) hb); clear HO163; clear HO167; clear HB; have HO163 := n0_; have HO167 := n1_; have HO170 := n2_; have HB := n3_; clear n0_ n1_ n2_ n3_; clear hb ho9; obtain ⟨Ao10, co10, eo10⟩ := Kd.R_slice HO167.out; subst eo10; obtain ⟨Ao11, co11, eo11⟩ := Kd.R_slice HO170.out; subst eo11) | ((with_reducible refine gate_callee (f := 12) rfl ?_); refine goesL_ (some 10) rfl rfl Tryd.func12 (by kernel_rfl) rfl #[.slice Ao10 t164.length co10, .slice Ao11 y168.length co11] rfl (by (try simp only [List.map_toArray, List.map_cons, List.map_nil]); first | done | rfl | (simp only [List.length_drop, List.length_take]; rfl)) ?_; (with_reducible refine (estreatref01_Same.calls k _ _ t164 _ _ y168 true _ ?side1 ?side2 ?side3 ?side4 A2.out).mono ?_); (case side1 => repeat (first | exact (Kd.R_reads' HO167.out).2.2 | (with_reducible refine Kd.C_alloc ?_ _) | (with_reducible refine Kd.C_drewN ?_ _) | (with_reducible refine Kd.C_drew ?_))); (case side2 => exact (Kd.R_reads' HO167.out).2.1); (case side3 => repeat (first | exact (Kd.R_reads' HO170.out).2.2 | (with_reducible refine Kd.C_alloc ?_ _) | (with_reducible refine Kd.C_drewN ?_ _) | (with_reducible refine Kd.C_drew ?_))); (case side4 => exact (Kd.R_reads' HO170.out).2.1); rintro e w' ⟨rfl, ⟨nd, rfl⟩⟩; refine ⟨_, rfl, ?_⟩))
    go_ret
    exact ⟨by first | rfl | (simp [errW_none, errW_some] <;> rfl) | (simp [*, errW_none, errW_some] <;> rfl), by repeat (first | (with_reducible first | exact HB.out | apply below_alloc | apply pw_below_drewN | apply below_drew1) | exact HB.out)⟩
  · replace c3 := Bool.eq_false_iff.mpr c3
    subst c3
    have H1 : (some false) = some r := by rw [if_neg (show ¬ (false = true) by decide)] at H; exact H
    clear H
    have H := H1
    clear H1
    obtain rfl := Option.some.inj H
    go_enter Tryd.func8, Tryd.ntmps8
    go_wp2_with (first | ((with_reducible refine gate_dst (N := 4) rfl ?_); refine Kd.R_lit Kd.string _ 9 ?hg (N := 4) ?hd (xs := ([(⟨#[98]⟩ : ByteArray), (⟨#[97]⟩ : ByteArray), (⟨#[98]⟩ : ByteArray)] : List ByteArray)) (inner := [.string (⟨#[98]⟩ : ByteArray), .string (⟨#[97]⟩ : ByteArray), .string (⟨#[98]⟩ : ByteArray)]) (ok := fun _ => True) (okp := fun _ => True) ?hr ?hp (fun _ hk => hk) trivial (Below.refl _ _) (Nat.le_refl _) (by simp) ?_; (case hd => rfl); (case hg => rfl); (case hr => first | (go_simp; done) | (go_simp; rfl)); (case hp => exact (Reps.one (show Kd.M Kd.string _ _ _ (⟨#[98]⟩ : ByteArray) [.string (⟨#[98]⟩ : ByteArray)] from rfl) (Reps.one (show Kd.M Kd.string _ _ _ (⟨#[97]⟩ : ByteArray) [.string (⟨#[97]⟩ : ByteArray)] from rfl) (Reps.one (show Kd.M Kd.string _ _ _ (⟨#[98]⟩ : ByteArray) [.string (⟨#[98]⟩ : ByteArray)] from rfl) (Reps.none _ _))))); intro v162 w12 ho13 hb hg_ hnew_; clear hg_ hnew_; (first | rw [← Ny161.out] at ho13 | (simp only [Int.reduceToNat] at ho13; rw [← Ny161.out] at ho13)); have n0_ := Aside0.mk (Kd.R_lower ho13 (below_size (by repeat (first | (with_reducible first | exact HB.out | apply below_alloc | apply pw_below_drewN | apply below_drew1) | exact HB.out)))); have n1_ := Aside0.mk (below_step (by repeat (first | (with_reducible first | exact HB.out | apply below_alloc | apply pw_below_drewN | apply below_drew1) | exact HB.out)) hb); clear HB; have HO163 := n0_; have HB := n1_; clear n0_ n1_; clear hb ho13; obtain ⟨Ao14, co14, eo14⟩ := Kd.R_slice HO163.out; subst eo14) | ((with_reducible refine gate_callee (f := 9) rfl ?_); refine goesL_ (some 5) rfl rfl Tryd.func9 (by kernel_rfl) rfl #[.slice Ao14 y161.length co14] rfl (by (try simp only [List.map_toArray, List.map_cons, List.map_nil]); first | done | rfl | (simp only [List.length_drop, List.length_take]; rfl)) ?_; (with_reducible refine (texts_Put.calls k _ _ y161 t164 t165 _ ?side1 ?side2 A1.out).mono ?_); (case side1 => repeat (first | exact (Kd.R_reads' HO163.out).2.2 | (with_reducible refine Kd.C_alloc ?_ _) | (with_reducible refine Kd.C_drewN ?_ _) | (with_reducible refine Kd.C_drew ?_))); (case side2 => exact (Kd.R_reads' HO163.out).2.1); rintro e w15 ⟨v166, rfl, ho0, hb⟩; refine ⟨_, rfl, ?_⟩; have n0_ := Aside0.mk (Kd.R_below (by (with_reducible repeat (first | apply Kd.R_alloc | apply Kd.R_drewN | apply Kd.R_drew)); exact HO163.out) hb); have n1_ := Aside0.mk (Kd.R_lower ho0 (below_size (by repeat (first | (with_reducible first | exact HB.out | apply below_alloc | apply pw_below_drewN | apply below_drew1) | exact HB.out)))); have n2_ := Aside0.mk (below_step (by repeat (first | (with_reducible first | exact HB.out | apply below_alloc | apply pw_below_drewN | apply below_drew1) | exact HB.out)) hb); clear HO163; clear HB; have HO163 := n0_; have HO167 := n1_; have HB := n2_; clear n0_ n1_ n2_; (try clear hb); (try clear hb2); (try clear hk); (try clear hi); (try clear ho0)) | ((with_reducible refine gate_dst (N := 9) rfl ?_); refine Kd.R_lit (Kd.int .u8) _ 5 ?hg (N := 9) ?hd (xs := ([2, 1, 97, 1, 98, 1, 5] : List Int)) (inner := [.int .u8 2, .int .u8 1, .int .u8 97, .int .u8 1, .int .u8 98, .int .u8 1, .int .u8 5]) (ok := fun _ => True) (okp := fun _ => True) ?hr ?hp (fun _ hk => hk) trivial (Below.refl _ _) (Nat.le_refl _) (by simp) ?_; (case hd => rfl); (case hg => rfl); (case hr => first | (go_simp; done) | (go_simp; rfl)); (case hp => exact (Reps.one (show Kd.M (Kd.int .u8) _ _ _ 2 [.int .u8 2] from rfl) (Reps.one (show Kd.M (Kd.int .u8) _ _ _ 1 [.int .u8 1] from rfl) (Reps.one (show Kd.M (Kd.int .u8) _ _ _ 97 [.int .u8 97] from rfl) (Reps.one (show Kd.M (Kd.int .u8) _ _ _ 1 [.int .u8 1] from rfl) (Reps.one (show Kd.M (Kd.int .u8) _ _ _ 98 [.int .u8 98] from rfl) (Reps.one (show Kd.M (Kd.int .u8) _ _ _ 1 [.int .u8 1] from rfl) (Reps.one (show Kd.M (Kd.int .u8) _ _ _ 5 [.int .u8 5] from rfl) (Reps.none _ _))))))))); intro v169 w16 ho17 hb hg_ hnew_; clear hg_ hnew_; (first | rw [← Ny168.out] at ho17 | (simp only [Int.reduceToNat] at ho17; rw [← Ny168.out] at ho17)); have n0_ := Aside0.mk (Kd.R_below (by (with_reducible repeat (first | apply Kd.R_alloc | apply Kd.R_drewN | apply Kd.R_drew)); exact HO163.out) hb); have n1_ := Aside0.mk (Kd.R_elder' (by (with_reducible repeat (first | apply Kd.R_alloc | apply Kd.R_drewN | apply Kd.R_drew)); exact HO167.out) (Kd.R_base ho17) hb); have n2_ := Aside0.mk (Kd.R_lower (Kd.R_new' ho17 (Kd.R_lt (by (with_reducible repeat (first | apply Kd.R_alloc | apply Kd.R_drewN | apply Kd.R_drew)); exact HO167.out))) (below_size (by repeat (first | (with_reducible first | exact HB.out | apply below_alloc | apply pw_below_drewN | apply below_drew1) | exact HB.out)))); have n3_ := Aside0.mk (below_step (by repeat (first | (with_reducible first | exact HB.out | apply below_alloc | apply pw_below_drewN | apply below_drew1) | exact HB.out)) hb); clear HO163; clear HO167; clear HB; have HO163 := n0_; have HO167 := n1_; have HO170 := n2_; have HB := n3_; clear n0_ n1_ n2_ n3_; clear hb ho17; obtain ⟨Ao18, co18, eo18⟩ := Kd.R_slice HO167.out; subst eo18; obtain ⟨Ao19, co19, eo19⟩ := Kd.R_slice HO170.out; subst eo19) | ((with_reducible refine gate_callee (f := 12) rfl ?_); refine goesL_ (some 10) rfl rfl Tryd.func12 (by kernel_rfl) rfl #[.slice Ao18 t164.length co18, .slice Ao19 y168.length co19] rfl (by (try simp only [List.map_toArray, List.map_cons, List.map_nil]); first | done | rfl | (simp only [List.length_drop, List.length_take]; rfl)) ?_; (with_reducible refine (estreatref01_Same.calls k _ _ t164 _ _ y168 false _ ?side1 ?side2 ?side3 ?side4 A2.out).mono ?_); (case side1 => repeat (first | exact (Kd.R_reads' HO167.out).2.2 | (with_reducible refine Kd.C_alloc ?_ _) | (with_reducible refine Kd.C_drewN ?_ _) | (with_reducible refine Kd.C_drew ?_))); (case side2 => exact (Kd.R_reads' HO167.out).2.1); (case side3 => repeat (first | exact (Kd.R_reads' HO170.out).2.2 | (with_reducible refine Kd.C_alloc ?_ _) | (with_reducible refine Kd.C_drewN ?_ _) | (with_reducible refine Kd.C_drew ?_))); (case side4 => exact (Kd.R_reads' HO170.out).2.1); rintro e w' ⟨rfl, ⟨nd, rfl⟩⟩; refine ⟨_, rfl, ?_⟩))
    go_ret
    exact ⟨by first | rfl | (simp [errW_none, errW_some] <;> rfl) | (simp [*, errW_none, errW_some] <;> rfl), by repeat (first | (with_reducible first | exact HB.out | apply below_alloc | apply pw_below_drewN | apply below_drew1) | exact HB.out)⟩

/-! ### bytes_Clone: function 69 -/
def bytes_Clone.f (l0 : List Int) : Option (List Int) := if l0.length * 1 ≤ 140737488355328 then some l0 else none
theorem bytes_Clone.info : (Tryd.prog.info? 5).map (fun i => (i.zero, i.size, i.bytes)) = some (some (.int .u8 0), 1, 1) := by kernel_rfl
theorem bytes_Clone.under : Tryd.prog.underlying 23 = some (.slice 5) := by kernel_rfl
set_option maxHeartbeats 4000000 in
theorem bytes_Clone.calls (A0 : Option Addr) (c0 : Nat) (l0 : List Int) (r : List Int) (w : World) (hr0 : (Kd.int .u8).C w A0 l0.length l0) (hc0 : l0.length ≤ c0) (h : bytes_Clone.f l0 = some r) :
    Calls Tryd.prog 69 #[.slice A0 l0.length c0] w fun e w' => ∃ v0_ : Value, e = .returned v0_ ∧ (Kd.int .u8).R 5 w' w.heap.size (fun _ => True) v0_ r ∧ Below w.heap.size w w' := by
  unfold bytes_Clone.f at h
  by_cases hl : l0.length * 1 ≤ 140737488355328
  · rw [if_pos hl] at h
    obtain rfl := Option.some.inj h
    cases A0 with
    | none =>
      have h0 : l0 = [] := by
        rcases l0 with _ | ⟨x, l⟩
        · rfl
        · obtain ⟨ad, e, _⟩ := hr0.2.2 (by simp)
          cases e
      subst h0
      have e1 : ∀ w, (binOp BinOp.eql 23 (.slice none ([] : List Int).length c0) (.slice none 0 0)).run Tryd.prog w = .ok (.bool true) w := fun w => by kernel_rfl
      simp only [List.length_nil] at e1 ⊢
      go_enter Tryd.func69, Tryd.ntmps69
      go_wp2
      go_ret
      exact ⟨_, rfl, Kd.R_nil _ _ _ _ _, Below.refl _ _⟩
    | some ad =>
      have e1 : ∀ w, (binOp BinOp.eql 23 (.slice (some ad) l0.length c0) (.slice none 0 0)).run Tryd.prog w = .ok (.bool false) w := fun w => by kernel_rfl
      have hB1 : Below w.heap.size w (w.alloc (.cells #[] 5)) := below_alloc (Below.refl _ _) _
      have hR1 : (Kd.int .u8).R 5 (w.alloc (.cells #[] 5)) w.heap.size (fun _ => True) (.slice (some ⟨w.heap.size, 0, none⟩) 0 0) [] :=
        Kd.R_of_own (h1 := fun _ => rfl) (by simpa [encs] using World.ownsRow_lit (base := w.heap.size) (e := 5) (size := 1) w #[] 0 (Nat.le_refl _) (by decide) (by simp)) (fun _ _ => trivial)
      have hC1 := Kd.C_below hr0 hB1
      go_enter Tryd.func69, Tryd.ntmps69
      go_wp2_with ((with_reducible refine gate_builtin (b := .append) (xs := #[.tmp 5, .tmp 6]) rfl ?_); at_builtin; refine Kd.R_append_rows (Kd.int .u8) (w0 := w) w.heap.size rfl (.tmp 5) (.tmp 6) 23 5 (.int .u8 0) 1 rfl bytes_Clone.under bytes_Clone.info rfl (by decide) (by omega) _ [] l0 _ _ _ (fun _ => True) (fun _ => False) rfl rfl hR1 hC1 (fun _ _ h => h) (fun _ h => h.elim) (fun _ _ => trivial) hB1 (by simp) (by simpa using hl) ?_; intro v1 w1 ho hb hg hat)
      go_ret
      exact ⟨_, rfl, by simpa using ho, hb⟩
  · rw [if_neg hl] at h; cases h

/-- What a num.Reader's state leads to beside its own block: its bytes' block and its fault's block, told by their types. -/
def NeRd (W : World) (g : Nat) (x : Option Nat) : Prop := some g ≠ x ∧ ∀ F cs t, (t = 131 ∨ t = 5) → W.heap[F]? = some (.cells cs t (0, 0)) → some F ≠ x
/-- An error's value: none, or a fault at a block of its own. -/
def FaultAt (w0 W : World) (ev : Value) (e at_ : Int) : Prop :=
  (e = 0 ∧ at_ = 0 ∧ ev = .nilIface) ∨ (e ≠ 0 ∧ ∃ F, ev = .iface 129 (.pointer (some ⟨F, 0, none⟩)) ∧ W.heap[F]? = some (.cells #[.int .i64 at_, .iface 26 (.int .i64 e)] 131 (0, 0)) ∧ w0.heap.size ≤ F)
theorem FaultAt.same {w0 W W1 : World} {ev : Value} {e at_ : Int} (h : FaultAt w0 W ev e at_) (hk : ∀ (F : Nat) (cs : Array Value), W.heap[F]? = some (.cells cs 131 (0, 0)) → W1.heap[F]? = W.heap[F]?) : FaultAt w0 W1 ev e at_ := by
  rcases h with h | ⟨h0, F, h1, h2, h3⟩
  · exact .inl h
  · exact .inr ⟨h0, F, h1, (hk F _ h2).trans h2, h3⟩
/-- The variable of package errors that calls lead to is as the program's start left it. -/
def HG (w : World) : Prop := w.cell? ⟨1, 0, none⟩ = some (.iface 193 (.agg #[.pointer (some ⟨2, 125, none⟩)]))
theorem HG.heap {w W : World} (h : HG w) (hk : ∀ k, k < w.heap.size → W.heap[k]? = w.heap[k]?) : HG W := by
  have h0 : 1 < w.heap.size := Go.block_lt_of_cell (a := ⟨1, 0, none⟩) h
  unfold HG World.cell? at *
  rw [hk 1 h0]; exact h
theorem HG.below {w W : World} (hB : Below w.heap.size w W) (h : HG w) : HG W := h.heap (fun k hk => hB.block k hk)
/-- A num.Reader at block g of W. -/
def IsS127 (w0 W : World) (g : Nat) (f0 : List Int) (f1 : Int) (f2 : Int) (f3 : Int) : Prop :=
  ∃ A0 c0 ev, W.heap[g]? = some (.cells #[.slice A0 f0.length c0, .int .i64 f1, ev] 127 (0, 0)) ∧ w0.heap.size ≤ g ∧ (Kd.int .u8).R 5 W w0.heap.size (fun k => some k = (Value.slice A0 f0.length c0).ownBlock) (.slice A0 f0.length c0) f0 ∧ FaultAt w0 W ev f2 f3 ∧ HG w0
section
variable {w0 W : World} {g : Nat} {f0 : List Int} {f1 f2 f3 : Int}
theorem IsS127.same {W1 : World} (h : IsS127 w0 W g f0 f1 f2 f3) (hk : ∀ (k : Nat) (cs : Array Value) (t : Nat), (t = 127 ∧ k = g ∨ t = 131 ∨ t = 5) → W.heap[k]? = some (.cells cs t (0, 0)) → W1.heap[k]? = W.heap[k]?) : IsS127 w0 W1 g f0 f1 f2 f3 := by
  obtain ⟨A, c, ev, hb, hg, hr, hf, hG⟩ := h
  refine ⟨A, c, ev, (hk g _ _ (.inl ⟨rfl, rfl⟩) hb).trans hb, hg, ?_, hf.same (fun F cs hF => hk F cs _ (.inr (.inl rfl)) hF), hG⟩
  have hty := Kd.R_typed hr
  exact Kd.R_step hr (fun k ho hlt => by obtain ⟨cs, hcs⟩ := hty k ho.symm; exact hk k cs _ (.inr (.inr rfl)) hcs)
theorem IsS127.grown {W1 : World} {row : Option Nat} (h : IsS127 w0 W g f0 f1 f2 f3) (hw : W.grownBy W1 row) (hne : some g ≠ row ∧ ∀ F cs t, (t = 131 ∨ t = 5) → W.heap[F]? = some (.cells cs t (0, 0)) → some F ≠ row) : IsS127 w0 W1 g f0 f1 f2 f3 :=
  h.same (fun k cs t ht hc => hw.block k (blk_lt hc) (by
    rcases ht with ⟨_, rfl⟩ | ht
    · exact hne.1
    · exact hne.2 k cs t ht hc))
theorem IsS127.kept {W1 : World} {S : Nat → Prop} (h : IsS127 w0 W g f0 f1 f2 f3) (hk : Kept W W1 S) (hne : ∀ k cs t, (t = 127 ∧ k = g ∨ t = 131 ∨ t = 5) → W.heap[k]? = some (.cells cs t (0, 0)) → ¬ S k) : IsS127 w0 W1 g f0 f1 f2 f3 :=
  h.same (fun k cs t ht hc => hk.2 k (blk_lt hc) (hne k cs t ht hc))
theorem IsS127.below {W1 : World} (h : IsS127 w0 W g f0 f1 f2 f3) (hw : Below W.heap.size W W1) : IsS127 w0 W1 g f0 f1 f2 f3 := h.same (fun k _ _ _ hc => hw.block k (blk_lt hc))
theorem IsS127.alloc (h : IsS127 w0 W g f0 f1 f2 f3) (o : Obj) : IsS127 w0 (W.alloc o) g f0 f1 f2 f3 := h.below (below_alloc (Below.refl _ _) o)
theorem IsS127.drewN (h : IsS127 w0 W g f0 f1 f2 f3) (m : Nat) : IsS127 w0 (W.drewN m) g f0 f1 f2 f3 := h.below (pw_below_drewN (Below.refl _ _) m)
theorem IsS127.drew (h : IsS127 w0 W g f0 f1 f2 f3) : IsS127 w0 W.drew g f0 f1 f2 f3 := h.below (below_drew1 (Below.refl _ _))
theorem IsS127.at_ {w' : World} {m : Nat} (hq : W.drewN m = w') (h : IsS127 w0 W g f0 f1 f2 f3) : IsS127 w0 w' g f0 f1 f2 f3 := by subst hq; exact IsS127.drewN h m
theorem IsS127.lt (h : IsS127 w0 W g f0 f1 f2 f3) : g < W.heap.size := by
  obtain ⟨A, c, ev, hb, _⟩ := h
  exact blk_lt hb
theorem IsS127.ge (h : IsS127 w0 W g f0 f1 f2 f3) : w0.heap.size ≤ g := by
  obtain ⟨A, c, ev, _, hg, _⟩ := h
  exact hg
theorem IsS127.cellset (h : IsS127 w0 W g f0 f1 f2 f3) (j : Nat) (u : Value) : ∃ A0 c0 ev, (W.setCell ⟨g, j, none⟩ u).heap[g]? = some (.cells (#[.slice A0 f0.length c0, .int .i64 f1, ev].setIfInBounds j u) 127 (0, 0)) ∧ w0.heap.size ≤ g ∧ (Kd.int .u8).R 5 (W.setCell ⟨g, j, none⟩ u) w0.heap.size (fun k => some k = (Value.slice A0 f0.length c0).ownBlock) (.slice A0 f0.length c0) f0 ∧ FaultAt w0 (W.setCell ⟨g, j, none⟩ u) ev f2 f3 ∧ HG w0 := by
  obtain ⟨A, c, ev, hb, hg, hr, hf, hG⟩ := h
  have hne := Kd.R_ne hr hb (by decide)
  refine ⟨A, c, ev, blk_set hb j u, hg, Kd.R_far hr (fun k hk (e : k = g) => hne (by rw [← e]; exact hk)) u, hf.same (fun F cs hF => Below.heap_setCell W ⟨g, j, none⟩ u F (fun e => ?_)), hG⟩
  rw [show F = g from e, hb] at hF
  injection hF with hF
  injection hF with _ ht
  exact absurd ht (by decide)
theorem IsS127.set_1 (h : IsS127 w0 W g f0 f1 f2 f3) (x : Int) : IsS127 w0 (W.setCell ⟨g, 1, none⟩ (.int .i64 x)) g f0 x f2 f3 := by
  obtain ⟨A, c, ev, hb, hg, hr, hf, hG⟩ := h.cellset 1 (.int .i64 x)
  exact ⟨A, c, ev, by simpa using hb, hg, hr, hf, hG⟩
theorem IsS127.fail (h : IsS127 w0 W g f0 f1 f2 f3) {e : Int} (he : e ≠ 0) (at_ : Int) : IsS127 w0 ((W.setCell ⟨g, 2, none⟩ (.iface 129 (.pointer (some ⟨W.heap.size, 0, none⟩)))).alloc (.cells #[.int .i64 at_, .iface 26 (.int .i64 e)] 131)) g f0 f1 e at_ := by
  have hlt := h.lt
  obtain ⟨A, c, ev, hb, hg, hr, hf, hG⟩ := h.cellset 2 (.iface 129 (.pointer (some ⟨W.heap.size, 0, none⟩)))
  refine ⟨A, c, _, blk_below hb (below_alloc (Below.refl _ _) _), hg, Kd.R_below hr (below_alloc (Below.refl _ _) _), .inr ⟨he, W.heap.size, by simp, ?_, by omega⟩, hG⟩
  have := heap_alloc_new (W.setCell ⟨g, 2, none⟩ (.iface 129 (.pointer (some ⟨W.heap.size, 0, none⟩)))) (.cells #[.int .i64 at_, .iface 26 (.int .i64 e)] 131)
  simpa using this
variable {α : Type} {d : Kd α} {e : Nat} {base : Nat} {ok : Nat → Prop} {v : Value} {xs : List α}
theorem IsS127.own_ne (h : IsS127 w0 W g f0 f1 f2 f3) (ho : Kd.R d e W base ok v xs) (ht : e ≠ 127 ∧ e ≠ 131 ∧ e ≠ 5) : NeRd W g v.ownBlock := by
  obtain ⟨A, c, ev, hb, _⟩ := h
  refine ⟨Kd.R_ne ho hb ht.1, ?_⟩
  rintro F cs t (rfl | rfl) hF
  · exact Kd.R_ne ho hF ht.2.1
  · exact Kd.R_ne ho hF ht.2.2
theorem IsS127.apart (h : IsS127 w0 W g f0 f1 f2 f3) (ho : Kd.R d e W base ok v xs) (ht : ∀ q, q ∈ e :: d.E → q ≠ 127) : Kd.R d e W base (fun k => ok k ∧ k ≠ g) v xs := by
  obtain ⟨A, c, ev, hb, _⟩ := h
  exact Kd.R_types ho hb ht
end


/-! ### num_NewReader: function 31 -/
def num_NewReader.f (l0 : List Int) : Option (List Int × Int × Int × Int) := if l0.length * 1 ≤ 140737488355328 then some (l0, 0, 0, 0) else none
set_option maxHeartbeats 4000000 in
theorem num_NewReader.calls (A0 : Option Addr) (c0 : Nat) (l0 : List Int) (r1 : List Int) (r2 : Int) (r3 : Int) (r4 : Int) (w0 w : World) (hB : Below w0.heap.size w0 w) (hr0 : (Kd.int .u8).C w A0 l0.length l0) (hc0 : l0.length ≤ c0) (hG : HG w0) (h : num_NewReader.f l0 = some (r1, r2, r3, r4)) :
    Calls Tryd.prog 31 #[.slice A0 l0.length c0] w fun e w' => ∃ g_ : Nat, e = .returned (.pointer (some ⟨g_, 0, none⟩)) ∧ IsS127 w0 w' g_ r1 r2 r3 r4 ∧ Below w0.heap.size w0 w' ∧ Below w.heap.size w w' := by
  unfold num_NewReader.f at h
  by_cases hl : l0.length * 1 ≤ 140737488355328
  · rw [if_pos hl] at h
    simp only [Option.some.injEq, Prod.mk.injEq] at h
    obtain ⟨rfl, rfl, rfl, rfl⟩ := h
    have hf : bytes_Clone.f l0 = some l0 := by unfold bytes_Clone.f; rw [if_pos hl]
    go_enter Tryd.func31, Tryd.ntmps31
    go_wp2_with (go_at_call 69; refine (bytes_Clone.calls A0 c0 l0 l0 w hr0 hc0 hf).mono ?_; rintro e w' ⟨v, rfl, hR, hB1⟩; obtain ⟨A, c, rfl⟩ := Kd.R_slice hR)
    go_ret
    have hB2 := below_step hB hB1
    have hR2 := Kd.R_lower hR (below_size hB)
    have hR3 : (Kd.int .u8).R 5 w' w0.heap.size (fun k => some k = (Value.slice A l0.length c).ownBlock) (.slice A l0.length c) l0 := Kd.R_of_own (h1 := fun _ => rfl) (Kd.own_of_R hR2) (fun k hk => hk.symm)
    exact ⟨_, rfl, ⟨A, c, .nilIface, by simpa using heap_alloc_new w' _, below_size hB2, Kd.R_below hR3 (below_alloc (Below.refl _ _) _), .inl ⟨rfl, rfl, rfl⟩, hG⟩, below_alloc hB2 _, below_alloc hB1 _⟩
  · rw [if_neg hl] at h; cases h

/-! ### num_Reader_ok: function 72 -/
theorem IsS127.open {w0 W : World} {g : Nat} {f0 : List Int} {f1 f2 f3 : Int} (h : IsS127 w0 W g f0 f1 f2 f3) :
    ∃ A0 c0 ev, W.heap[g]? = some (.cells #[.slice A0 f0.length c0, .int .i64 f1, ev] 127 (0, 0)) ∧ W.cell? ⟨g, 0, none⟩ = some (.slice A0 f0.length c0) ∧ W.cell? ⟨g, 1, none⟩ = some (.int .i64 f1) ∧ W.cell? ⟨g, 2, none⟩ = some ev ∧ (∀ j, W.frozen? ⟨g, j, none⟩ = false) ∧
      (Kd.int .u8).R 5 W w0.heap.size (fun k => some k = (Value.slice A0 f0.length c0).ownBlock) (.slice A0 f0.length c0) f0 ∧ FaultAt w0 W ev f2 f3 := by
  obtain ⟨A, c, ev, hb, hg, hr, hf, hG⟩ := h
  exact ⟨A, c, ev, hb, (blk_cell hb 0).trans rfl, (blk_cell hb 1).trans rfl, (blk_cell hb 2).trans rfl, fun j => by simp [World.frozen?, hb], hr, hf⟩
theorem FaultAt.eqNil {w0 W : World} {ev : Value} {e at_ : Int} (h : FaultAt w0 W ev e at_) (w : World) : (binOp BinOp.eql 125 ev .nilIface).run Tryd.prog w = .ok (.bool (decide (e = 0))) w := by
  rcases h with ⟨rfl, rfl, rfl⟩ | ⟨h0, F, rfl, _⟩
  · kernel_rfl
  · rw [decide_eq_false h0]; kernel_rfl
theorem FaultAt.guardNil {w0 W : World} {ev : Value} {e at_ : Int} (h : FaultAt w0 W ev e at_) (t : Nat) (w : World) : (eqGuard BinOp.eql 125 (Operand.tmp t) (Operand.const Value.nilIface) ev Value.nilIface).run Tryd.prog w = .ok () w := by
  rcases h with ⟨rfl, rfl, rfl⟩ | ⟨h0, F, rfl, _⟩
  · kernel_rfl
  · kernel_rfl
theorem num_Reader_ok.walk (g : Nat) (s0_0 : List Int) (s0_1 : Int) (s0_2 : Int) (s0_3 : Int) (w0 w : World) (hI : IsS127 w0 w g s0_0 s0_1 s0_2 s0_3) :
    Calls Tryd.prog 72 #[.pointer (some ⟨g, 0, none⟩)] w fun e w' => e = .returned (.bool (decide (s0_2 = 0))) ∧ w' = w := by
  obtain ⟨A, c, ev, hb, hc0, hc1, hc2, hfz, hr, hf⟩ := hI.open
  have hq := hf.eqNil
  have hq2 := hf.guardNil
  have e1 : ∀ w, (binOp BinOp.neq 76 (.pointer (some ⟨g, 0, none⟩)) (.pointer none)).run Tryd.prog w = .ok (.bool true) w := fun w => by kernel_rfl
  go_enter Tryd.func72, Tryd.ntmps72
  go_wp2
  go_ret
  exact ⟨rfl, rfl⟩
def num_Reader_ok.f (s0_0 : List Int) (s0_1 : Int) (s0_2 : Int) (s0_3 : Int) : Option (Bool × Int × Int × Int) := some (decide (s0_2 = 0), s0_1, s0_2, s0_3)
theorem num_Reader_ok.calls (g : Nat) (s0_0 : List Int) (s0_1 : Int) (s0_2 : Int) (s0_3 : Int) (r1 : Bool) (r2 r3 r4 : Int) (w0 w : World) (hI : IsS127 w0 w g s0_0 s0_1 s0_2 s0_3) (hB : Below w0.heap.size w0 w) (h : num_Reader_ok.f s0_0 s0_1 s0_2 s0_3 = some (r1, r2, r3, r4)) :
    Calls Tryd.prog 72 #[.pointer (some ⟨g, 0, none⟩)] w fun e w' => e = .returned (.bool r1) ∧ IsS127 w0 w' g s0_0 r2 r3 r4 ∧ Below w0.heap.size w0 w' ∧ KeepBut w w' g none := by
  simp only [num_Reader_ok.f, Option.some.injEq, Prod.mk.injEq] at h
  obtain ⟨rfl, rfl, rfl, rfl⟩ := h
  refine (num_Reader_ok.walk g s0_0 s0_1 s0_2 s0_3 w0 w hI).mono ?_
  rintro e w' ⟨rfl, rfl⟩
  exact ⟨rfl, hI, hB, KeepBut.refl _ _ _⟩

/-! ### num_Reader_Fail: function 34 -/
/-- What Fail does: nothing, or a new fault is put into the state. -/
def num_Reader_Fail.next (e at_ on f : Int) : Int × Int := if e = 0 ∧ f ≠ 0 then (f, at_) else (e, on)
set_option maxHeartbeats 4000000 in
theorem num_Reader_Fail.walk (g : Nat) (s0_0 : List Int) (s0_1 : Int) (s0_2 : Int) (s0_3 : Int) (a1 : Int) (w0 w : World) (hI : IsS127 w0 w g s0_0 s0_1 s0_2 s0_3) (hB : Below w0.heap.size w0 w) :
    Calls Tryd.prog 34 #[.pointer (some ⟨g, 0, none⟩), .int .i64 a1] w fun e w' => e = .returned (.tuple #[]) ∧ IsS127 w0 w' g s0_0 s0_1 (num_Reader_Fail.next s0_2 s0_1 s0_3 a1).1 (num_Reader_Fail.next s0_2 s0_1 s0_3 a1).2 ∧ Below w0.heap.size w0 w' ∧ KeepBut w w' g none := by
  have hI0 := hI
  obtain ⟨A, c, ev, hb, hc0, hc1, hc2, hfz, hr, hf⟩ := hI.open
  have hg := hI.ge
  have hlt := hI.lt
  by_cases h0 : s0_2 = 0
  · have d0 : decide (s0_2 = 0) = true := decide_eq_true h0
    by_cases h1 : a1 = 0
    · rw [show num_Reader_Fail.next s0_2 s0_1 s0_3 a1 = (s0_2, s0_3) from if_neg (by simp [h1])]
      subst h1
      go_enter Tryd.func34, Tryd.ntmps34
      go_wp2_with (go_at_call 72; refine (num_Reader_ok.walk g _ _ _ _ w0 w hI0).mono ?_; rintro e w' ⟨he, rfl⟩; rw [d0] at he; subst he)
      go_end0
      exact ⟨rfl, hI0, hB, KeepBut.refl _ _ _⟩
    · rw [show num_Reader_Fail.next s0_2 s0_1 s0_3 a1 = (a1, s0_1) from if_pos ⟨h0, h1⟩]
      have d1 : decide (a1 = 0) = false := decide_eq_false h1
      go_enter Tryd.func34, Tryd.ntmps34
      go_wp2_with (go_at_call 72; refine (num_Reader_ok.walk g _ _ _ _ w0 w hI0).mono ?_; rintro e w' ⟨he, rfl⟩; rw [d0] at he; subst he)
      go_end0
      exact ⟨rfl, hI0.fail h1 s0_1, below_alloc (below_set hB (show w0.heap.size ≤ (⟨g, 2, none⟩ : Addr).block from hg)) _, keep_alloc (KeepBut.set_ (KeepBut.refl _ _ _) _ _) _⟩
  · rw [show num_Reader_Fail.next s0_2 s0_1 s0_3 a1 = (s0_2, s0_3) from if_neg (by simp [h0])]
    have d0 : decide (s0_2 = 0) = false := decide_eq_false h0
    go_enter Tryd.func34, Tryd.ntmps34
    go_wp2_with (go_at_call 72; refine (num_Reader_ok.walk g _ _ _ _ w0 w hI0).mono ?_; rintro e w' ⟨he, rfl⟩; rw [d0] at he; subst he)
    go_end0
    exact ⟨rfl, hI0, hB, KeepBut.refl _ _ _⟩
def num_Reader_Fail.f (s0_0 : List Int) (s0_1 : Int) (s0_2 : Int) (s0_3 : Int) (a1 : Int) : Option (Int × Int × Int) := some (s0_1, num_Reader_Fail.next s0_2 s0_1 s0_3 a1)
theorem num_Reader_Fail.calls (g : Nat) (s0_0 : List Int) (s0_1 : Int) (s0_2 : Int) (s0_3 : Int) (a1 : Int) (r1 r2 r3 : Int) (w0 w : World) (hI : IsS127 w0 w g s0_0 s0_1 s0_2 s0_3) (hB : Below w0.heap.size w0 w) (h : num_Reader_Fail.f s0_0 s0_1 s0_2 s0_3 a1 = some (r1, r2, r3)) :
    Calls Tryd.prog 34 #[.pointer (some ⟨g, 0, none⟩), .int .i64 a1] w fun e w' => e = .returned (.tuple #[]) ∧ IsS127 w0 w' g s0_0 r1 r2 r3 ∧ Below w0.heap.size w0 w' ∧ KeepBut w w' g none := by
  simp only [num_Reader_Fail.f, Option.some.injEq, Prod.mk.injEq] at h
  obtain ⟨rfl, h⟩ := h
  have := num_Reader_Fail.walk g s0_0 s0_1 s0_2 s0_3 a1 w0 w hI hB
  rw [h] at this
  exact this

-- NOT PRINTED: function 96 (reflectlite_ValueOf)

-- NOT PRINTED: function 97 (reflectlite_Value_Type)

-- NOT PRINTED: function 98 (reflectlite_Value_IsNil)

-- NOT PRINTED: function 128 (reflectlite_TypeOf)

-- NOT PRINTED: function 129 (reflectlite_Value_Elem)

-- NOT PRINTED: function 130 (reflectlite_Value_Set)

-- NOT PRINTED: function 99 (errors_as)

-- NOT PRINTED: function 73 (errors_As)

end Go.Proofs.YtbkocklahdlgkaaDoor.PTextsBack
