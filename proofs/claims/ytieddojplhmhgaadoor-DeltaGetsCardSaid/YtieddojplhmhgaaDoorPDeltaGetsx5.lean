/- WRITTEN BY A PROGRAM of this session (wip/tool: a turned copy of the printer), out of the translation: Lean functions with the answers of the Go functions, and the proofs that the Go code comes to them. -/
import Derived.Test.YtieddojplhmhgaaDoorPDeltaGetsx0
import Derived.Test.YtieddojplhmhgaaDoorPDeltaGetsx3
import Derived.Test.YtieddojplhmhgaaDoorPDeltaGetsx4
namespace Go.Proofs.YtieddojplhmhgaaDoor.PDeltaGets
open Go.RowKit Go.Proofs.YtieddojplhmhgaaDoorW.PrintWords Go.Proofs.YtieddojplhmhgaaDoorW.PrintLast Go.Proofs.YtieddojplhmhgaaDoorW.PrintMore
attribute [local go_sem] max2_int min2_int max_two min_two max_three min_three max_four min_four   -- for this text's walks alone
set_option linter.unusedVariables false
set_option linter.unusedSimpArgs false

/-! ### num_Reader_Fix: function 37 -/
def num_Reader_Fix.j0 : Nat → Int → Bool → List Int → Int → Int → Int → Option (Int × Int × Int × Int)
  | 0, _, _, _, _, _, _ => none
  | k + 1, x1, x12, x1000, x1001, x1002, x1003 => if x12 = true then ((num_Reader_ok.f x1000 x1001 x1002 x1003).bind fun bt178 => (if bt178.1 = true then ((num_Reader_Fail.f x1000 bt178.2.1 bt178.2.2.1 bt178.2.2.2 1).bind fun bt182 => (some (0, bt182.1, bt182.2.1, bt182.2.2))) else (some (0, bt178.2.1, bt178.2.2.1, bt178.2.2.2)))) else ((num_Reader_Take.f x1000 x1001 x1002 x1003 x1).bind fun bt185 => (if (bt185.1.length : Int) = 8 then (if 7 < (bt185.1.length : Int) then (if 6 < (bt185.1.length : Int) then (if 5 < (bt185.1.length : Int) then (if 4 < (bt185.1.length : Int) then (if 3 < (bt185.1.length : Int) then (if 2 < (bt185.1.length : Int) then (if 1 < (bt185.1.length : Int) then (if 0 < (bt185.1.length : Int) then (some (Go.bits .or .u64 (Go.bits .or .u64 (Go.bits .or .u64 (Go.bits .or .u64 (Go.bits .or .u64 (Go.bits .or .u64 (Go.bits .or .u64 (Go.bits .or .u64 0 (IntKind.u64.wrap ((IntKind.u64.wrap (rd bt185.1 7)) * 72057594037927936))) (IntKind.u64.wrap ((IntKind.u64.wrap (rd bt185.1 6)) * 281474976710656))) (IntKind.u64.wrap ((IntKind.u64.wrap (rd bt185.1 5)) * 1099511627776))) (IntKind.u64.wrap ((IntKind.u64.wrap (rd bt185.1 4)) * 4294967296))) (IntKind.u64.wrap ((IntKind.u64.wrap (rd bt185.1 3)) * 16777216))) (IntKind.u64.wrap ((IntKind.u64.wrap (rd bt185.1 2)) * 65536))) (IntKind.u64.wrap ((IntKind.u64.wrap (rd bt185.1 1)) * 256))) (IntKind.u64.wrap (rd bt185.1 0)), bt185.2.1, bt185.2.2.1, bt185.2.2.2)) else (none)) else (none)) else (none)) else (none)) else (none)) else (none)) else (none)) else (none)) else (if (bt185.1.length : Int) = 7 then (if 6 < (bt185.1.length : Int) then (if 5 < (bt185.1.length : Int) then (if 4 < (bt185.1.length : Int) then (if 3 < (bt185.1.length : Int) then (if 2 < (bt185.1.length : Int) then (if 1 < (bt185.1.length : Int) then (if 0 < (bt185.1.length : Int) then (some (Go.bits .or .u64 (Go.bits .or .u64 (Go.bits .or .u64 (Go.bits .or .u64 (Go.bits .or .u64 (Go.bits .or .u64 (Go.bits .or .u64 0 (IntKind.u64.wrap ((IntKind.u64.wrap (rd bt185.1 6)) * 281474976710656))) (IntKind.u64.wrap ((IntKind.u64.wrap (rd bt185.1 5)) * 1099511627776))) (IntKind.u64.wrap ((IntKind.u64.wrap (rd bt185.1 4)) * 4294967296))) (IntKind.u64.wrap ((IntKind.u64.wrap (rd bt185.1 3)) * 16777216))) (IntKind.u64.wrap ((IntKind.u64.wrap (rd bt185.1 2)) * 65536))) (IntKind.u64.wrap ((IntKind.u64.wrap (rd bt185.1 1)) * 256))) (IntKind.u64.wrap (rd bt185.1 0)), bt185.2.1, bt185.2.2.1, bt185.2.2.2)) else (none)) else (none)) else (none)) else (none)) else (none)) else (none)) else (none)) else (if (bt185.1.length : Int) = 6 then (if 5 < (bt185.1.length : Int) then (if 4 < (bt185.1.length : Int) then (if 3 < (bt185.1.length : Int) then (if 2 < (bt185.1.length : Int) then (if 1 < (bt185.1.length : Int) then (if 0 < (bt185.1.length : Int) then (some (Go.bits .or .u64 (Go.bits .or .u64 (Go.bits .or .u64 (Go.bits .or .u64 (Go.bits .or .u64 (Go.bits .or .u64 0 (IntKind.u64.wrap ((IntKind.u64.wrap (rd bt185.1 5)) * 1099511627776))) (IntKind.u64.wrap ((IntKind.u64.wrap (rd bt185.1 4)) * 4294967296))) (IntKind.u64.wrap ((IntKind.u64.wrap (rd bt185.1 3)) * 16777216))) (IntKind.u64.wrap ((IntKind.u64.wrap (rd bt185.1 2)) * 65536))) (IntKind.u64.wrap ((IntKind.u64.wrap (rd bt185.1 1)) * 256))) (IntKind.u64.wrap (rd bt185.1 0)), bt185.2.1, bt185.2.2.1, bt185.2.2.2)) else (none)) else (none)) else (none)) else (none)) else (none)) else (none)) else (if (bt185.1.length : Int) = 5 then (if 4 < (bt185.1.length : Int) then (if 3 < (bt185.1.length : Int) then (if 2 < (bt185.1.length : Int) then (if 1 < (bt185.1.length : Int) then (if 0 < (bt185.1.length : Int) then (some (Go.bits .or .u64 (Go.bits .or .u64 (Go.bits .or .u64 (Go.bits .or .u64 (Go.bits .or .u64 0 (IntKind.u64.wrap ((IntKind.u64.wrap (rd bt185.1 4)) * 4294967296))) (IntKind.u64.wrap ((IntKind.u64.wrap (rd bt185.1 3)) * 16777216))) (IntKind.u64.wrap ((IntKind.u64.wrap (rd bt185.1 2)) * 65536))) (IntKind.u64.wrap ((IntKind.u64.wrap (rd bt185.1 1)) * 256))) (IntKind.u64.wrap (rd bt185.1 0)), bt185.2.1, bt185.2.2.1, bt185.2.2.2)) else (none)) else (none)) else (none)) else (none)) else (none)) else (if (bt185.1.length : Int) = 4 then (if 3 < (bt185.1.length : Int) then (if 2 < (bt185.1.length : Int) then (if 1 < (bt185.1.length : Int) then (if 0 < (bt185.1.length : Int) then (some (Go.bits .or .u64 (Go.bits .or .u64 (Go.bits .or .u64 (Go.bits .or .u64 0 (IntKind.u64.wrap ((IntKind.u64.wrap (rd bt185.1 3)) * 16777216))) (IntKind.u64.wrap ((IntKind.u64.wrap (rd bt185.1 2)) * 65536))) (IntKind.u64.wrap ((IntKind.u64.wrap (rd bt185.1 1)) * 256))) (IntKind.u64.wrap (rd bt185.1 0)), bt185.2.1, bt185.2.2.1, bt185.2.2.2)) else (none)) else (none)) else (none)) else (none)) else (if (bt185.1.length : Int) = 3 then (if 2 < (bt185.1.length : Int) then (if 1 < (bt185.1.length : Int) then (if 0 < (bt185.1.length : Int) then (some (Go.bits .or .u64 (Go.bits .or .u64 (Go.bits .or .u64 0 (IntKind.u64.wrap ((IntKind.u64.wrap (rd bt185.1 2)) * 65536))) (IntKind.u64.wrap ((IntKind.u64.wrap (rd bt185.1 1)) * 256))) (IntKind.u64.wrap (rd bt185.1 0)), bt185.2.1, bt185.2.2.1, bt185.2.2.2)) else (none)) else (none)) else (none)) else (if (bt185.1.length : Int) = 2 then (if 1 < (bt185.1.length : Int) then (if 0 < (bt185.1.length : Int) then (some (Go.bits .or .u64 (Go.bits .or .u64 0 (IntKind.u64.wrap ((IntKind.u64.wrap (rd bt185.1 1)) * 256))) (IntKind.u64.wrap (rd bt185.1 0)), bt185.2.1, bt185.2.2.1, bt185.2.2.2)) else (none)) else (none)) else (if (bt185.1.length : Int) = 1 then (if 0 < (bt185.1.length : Int) then (some (Go.bits .or .u64 0 (IntKind.u64.wrap (rd bt185.1 0)), bt185.2.1, bt185.2.2.1, bt185.2.2.2)) else (none)) else (some (0, bt185.2.1, bt185.2.2.1, bt185.2.2.2)))))))))))
def num_Reader_Fix.f (k : Nat) (s0_0 : List Int) (s0_1 : Int) (s0_2 : Int) (s0_3 : Int) (a1 : Int) : Option (Int × Int × Int × Int) := if a1 < 0 then (num_Reader_Fix.j0 k a1 true s0_0 s0_1 s0_2 s0_3) else (num_Reader_Fix.j0 k a1 (decide (a1 > 8)) s0_0 s0_1 s0_2 s0_3)
set_option maxHeartbeats 8000000 in
set_option maxRecDepth 100000 in
theorem num_Reader_Fix.calls (k : Nat) (g : Nat) (s0_0 : List Int) (s0_1 : Int) (s0_2 : Int) (s0_3 : Int) (a1 : Int) (r1 : Int) (r2 : Int) (r3 : Int) (r4 : Int) (w0 w : World) (hI : IsS87 w0 w g s0_0 s0_1 s0_2 s0_3) (hB : Below w0.heap.size w0 w) (h : num_Reader_Fix.f k s0_0 s0_1 s0_2 s0_3 a1 = some (r1, r2, r3, r4)) :
    Calls Tryd.prog 37 #[.pointer (some ⟨g, 0, none⟩), .int .i64 a1] w fun e w' => e = .returned (.int .u64 r1) ∧ IsS87 w0 w' g s0_0 r2 r3 r4 ∧ Below w0.heap.size w0 w' ∧ KeepBut w w' g none := by
  have HI0 := Aside0.mk hI
  have HK := Aside0.mk (KeepBut.refl w g none)
  have HL := Aside0.mk hB.size
  clear hI
  have HW0 := Aside0.mk hB.size
  have HB := Aside0.mk hB
  clear hB
  have H : (if a1 < 0 then (num_Reader_Fix.j0 k a1 true s0_0 s0_1 s0_2 s0_3) else (num_Reader_Fix.j0 k a1 (decide (a1 > 8)) s0_0 s0_1 s0_2 s0_3)) = some (r1, r2, r3, r4) := h
  clear h
  have HC3 := Aside0.mk H
  clear H
  go_enter Tryd.func37, Tryd.ntmps37
  go_upto_region 1 with (fail)
  go_cut [12] (fun v12 wc => ∃ (kq : Nat) (x12_2 : Bool), v12 = .bool x12_2 ∧ Aside0 (num_Reader_Fix.j0 kq a1 x12_2 s0_0 s0_1 s0_2 s0_3 = some (r1, r2, r3, r4)) ∧ Aside0 (kq ≤ k) ∧ Aside0 (IsS87 w0 wc g s0_0 s0_1 s0_2 s0_3) ∧ Aside0 (KeepBut w wc g none) ∧ Aside0 (Below w0.heap.size w0 wc))
  case first =>
    have H := HC3.out
    clear HC3
    by_cases c4 : a1 < 0
    · rw [if_pos c4] at H
      have c4b0 : decide (a1 < 0) = true := decide_eq_true c4
      clear c4
      (first | rw [c4b0] | (simp only [i64_w, i32_w]; rw [c4b0]) | skip)
      have H' := Aside0.mk H
      clear H
      go_wp2
      go_meet
      case rel => exact ⟨_, (true), (by first | rfl | (simp; done) | (simp [*]; done)), H', ⟨by first | omega | exact Nat.le_refl _⟩, ⟨by repeat (first | (with_reducible first | exact HI0.out | apply IsS87.alloc | apply IsS87.drewN | apply IsS87.drew | apply IsS87.set_1 | apply IsS87.set_2 | apply IsS87.set_3) | exact HI0.out)⟩, ⟨by repeat (first | (with_reducible first | exact HK.out | apply KeepBut.set_ | apply keep_drewN | apply keep_drew | apply keep_alloc) | exact HK.out)⟩, ⟨by repeat (first | (with_reducible first | exact HB.out | apply below_alloc | apply pw_below_drewN | apply below_drew1 | refine below_set ?_ (IsS87.ge HI0.out)) | exact HB.out)⟩⟩
    · rw [if_neg c4] at H
      have c4b0 : decide (a1 < 0) = false := decide_eq_false c4
      clear c4
      (first | rw [c4b0] | (simp only [i64_w, i32_w]; rw [c4b0]) | skip)
      have H' := Aside0.mk H
      clear H
      go_wp2
      go_meet
      case rel => exact ⟨_, (decide (a1 > 8)), (by first | rfl | (simp; done) | (simp [*]; done)), H', ⟨by first | omega | exact Nat.le_refl _⟩, ⟨by repeat (first | (with_reducible first | exact HI0.out | apply IsS87.alloc | apply IsS87.drewN | apply IsS87.drew | apply IsS87.set_1 | apply IsS87.set_2 | apply IsS87.set_3) | exact HI0.out)⟩, ⟨by repeat (first | (with_reducible first | exact HK.out | apply KeepBut.set_ | apply keep_drewN | apply keep_drew | apply keep_alloc) | exact HK.out)⟩, ⟨by repeat (first | (with_reducible first | exact HB.out | apply below_alloc | apply pw_below_drewN | apply below_drew1 | refine below_set ?_ (IsS87.ge HI0.out)) | exact HB.out)⟩⟩
  case rest =>
    clear HC3
    try clear p2
    try clear c3
    try clear c4
    try clear c4b0
    obtain ⟨kq, x12_2, rfl, HA, HJ2, HI0, HK, HB⟩ := hcut
    cases kq with
    | zero => exact absurd HA.out (by simp [num_Reader_Fix.j0])
    | succ kj2 =>
      have H := HA.out
      clear HA
      simp only [num_Reader_Fix.j0] at H
      by_cases c5 : x12_2 = true
      · subst c5
        have H1 : ((num_Reader_ok.f s0_0 s0_1 s0_2 s0_3).bind fun bt178 => (if bt178.1 = true then ((num_Reader_Fail.f s0_0 bt178.2.1 bt178.2.2.1 bt178.2.2.2 1).bind fun bt182 => (some (0, bt182.1, bt182.2.1, bt182.2.2))) else (some (0, bt178.2.1, bt178.2.2.1, bt178.2.2.2)))) = some (r1, r2, r3, r4) := by rw [if_pos rfl] at H; exact H
        clear H
        have H := H1
        clear H1
        replace H := Option.bind_eq_some_iff.mp H
        obtain ⟨⟨t178, t179, t180, t181⟩, A60, H⟩ := H
        replace H : (if t178 = true then ((num_Reader_Fail.f s0_0 t179 t180 t181 1).bind fun bt182 => (some (0, bt182.1, bt182.2.1, bt182.2.2))) else (some (0, t179, t180, t181))) = some (r1, r2, r3, r4) := H
        have A6 := Aside0.mk A60
        clear A60
        by_cases c7 : t178 = true
        · subst c7
          have H1 : ((num_Reader_Fail.f s0_0 t179 t180 t181 1).bind fun bt182 => (some (0, bt182.1, bt182.2.1, bt182.2.2))) = some (r1, r2, r3, r4) := by rw [if_pos rfl] at H; exact H
          clear H
          have H := H1
          clear H1
          replace H := Option.bind_eq_some_iff.mp H
          obtain ⟨⟨t182, t183, t184⟩, A80, H⟩ := H
          replace H : (some (0, t182, t183, t184)) = some (r1, r2, r3, r4) := H
          have A8 := Aside0.mk A80
          clear A80
          simp only [Option.some.injEq, Prod.mk.injEq] at H
          obtain ⟨rfl, rfl, rfl, rfl⟩ := H
          go_wp2_with (first | ((with_reducible refine gate_callee (f := 71) rfl ?_); refine goesL_ (some 14) rfl rfl Tryd.func71 (by kernel_rfl) rfl #[.pointer (some ⟨g, 0, none⟩)] rfl (by (try simp only [List.map_toArray, List.map_cons, List.map_nil]); first | done | rfl | (simp only [List.length_drop, List.length_take]; rfl)) ?_; (with_reducible refine (num_Reader_ok.calls g s0_0 s0_1 s0_2 s0_3 true t179 t180 t181 w0 _ ?side1 ?side2 A6.out).mono ?_); (case side1 => repeat (first | (with_reducible first | exact HI0.out | apply IsS87.alloc | apply IsS87.drewN | apply IsS87.drew | apply IsS87.set_1 | apply IsS87.set_2 | apply IsS87.set_3) | exact HI0.out)); (case side2 => repeat (first | (with_reducible first | exact HB.out | apply below_alloc | apply pw_below_drewN | apply below_drew1 | refine below_set ?_ (IsS87.ge HI0.out)) | exact HB.out)); rintro e w9 ⟨rfl, hi, hb, hk⟩; refine ⟨_, rfl, ?_⟩; have n0_ := Aside0.mk (KeepBut.trans (by repeat (first | (with_reducible first | exact HK.out | apply KeepBut.set_ | apply keep_drewN | apply keep_drew | apply keep_alloc) | exact HK.out)) hk (.inl rfl)); have n1_ := Aside0.mk (hb); have n2_ := Aside0.mk (hi); clear HK; clear HB; clear HI0; have HK := n0_; have HB := n1_; have HI0 := n2_; clear n0_ n1_ n2_; (try clear hb); (try clear hb2); (try clear hk); (try clear hi)) | ((with_reducible refine gate_callee (f := 38) rfl ?_); refine goesL_ (some 16) rfl rfl Tryd.func38 (by kernel_rfl) rfl #[.pointer (some ⟨g, 0, none⟩), .int .i64 1] rfl (by (try simp only [List.map_toArray, List.map_cons, List.map_nil]); first | done | rfl | (simp only [List.length_drop, List.length_take]; rfl)) ?_; (with_reducible refine (num_Reader_Fail.calls g s0_0 t179 t180 t181 1 t182 t183 t184 w0 _ ?side1 ?side2 A8.out).mono ?_); (case side1 => repeat (first | (with_reducible first | exact HI0.out | apply IsS87.alloc | apply IsS87.drewN | apply IsS87.drew | apply IsS87.set_1 | apply IsS87.set_2 | apply IsS87.set_3) | exact HI0.out)); (case side2 => repeat (first | (with_reducible first | exact HB.out | apply below_alloc | apply pw_below_drewN | apply below_drew1 | refine below_set ?_ (IsS87.ge HI0.out)) | exact HB.out)); rintro e w10 ⟨rfl, hi, hb, hk⟩; refine ⟨_, rfl, ?_⟩; have n0_ := Aside0.mk (KeepBut.trans (by repeat (first | (with_reducible first | exact HK.out | apply KeepBut.set_ | apply keep_drewN | apply keep_drew | apply keep_alloc) | exact HK.out)) hk (.inl rfl)); have n1_ := Aside0.mk (hb); have n2_ := Aside0.mk (hi); clear HK; clear HB; clear HI0; have HK := n0_; have HB := n1_; have HI0 := n2_; clear n0_ n1_ n2_; (try clear hb); (try clear hb2); (try clear hk); (try clear hi)))
          go_ret
          exact ⟨by first | rfl | (simp [errW_none, errW_some] <;> rfl) | (simp [*, errW_none, errW_some] <;> rfl), by repeat (first | (with_reducible first | exact HI0.out | apply IsS87.alloc | apply IsS87.drewN | apply IsS87.drew | apply IsS87.set_1 | apply IsS87.set_2 | apply IsS87.set_3) | exact HI0.out), by repeat (first | (with_reducible first | exact HB.out | apply below_alloc | apply pw_below_drewN | apply below_drew1 | refine below_set ?_ (IsS87.ge HI0.out)) | exact HB.out), by repeat (first | (with_reducible first | exact HK.out | apply KeepBut.set_ | apply keep_drewN | apply keep_drew | apply keep_alloc) | exact HK.out)⟩
        · replace c7 := Bool.eq_false_iff.mpr c7
          subst c7
          have H1 : (some (0, t179, t180, t181)) = some (r1, r2, r3, r4) := by rw [if_neg (show ¬ (false = true) by decide)] at H; exact H
          clear H
          have H := H1
          clear H1
          simp only [Option.some.injEq, Prod.mk.injEq] at H
          obtain ⟨rfl, rfl, rfl, rfl⟩ := H
          go_wp2_with (first | ((with_reducible refine gate_callee (f := 71) rfl ?_); refine goesL_ (some 14) rfl rfl Tryd.func71 (by kernel_rfl) rfl #[.pointer (some ⟨g, 0, none⟩)] rfl (by (try simp only [List.map_toArray, List.map_cons, List.map_nil]); first | done | rfl | (simp only [List.length_drop, List.length_take]; rfl)) ?_; (with_reducible refine (num_Reader_ok.calls g s0_0 s0_1 s0_2 s0_3 false t179 t180 t181 w0 _ ?side1 ?side2 A6.out).mono ?_); (case side1 => repeat (first | (with_reducible first | exact HI0.out | apply IsS87.alloc | apply IsS87.drewN | apply IsS87.drew | apply IsS87.set_1 | apply IsS87.set_2 | apply IsS87.set_3) | exact HI0.out)); (case side2 => repeat (first | (with_reducible first | exact HB.out | apply below_alloc | apply pw_below_drewN | apply below_drew1 | refine below_set ?_ (IsS87.ge HI0.out)) | exact HB.out)); rintro e w11 ⟨rfl, hi, hb, hk⟩; refine ⟨_, rfl, ?_⟩; have n0_ := Aside0.mk (KeepBut.trans (by repeat (first | (with_reducible first | exact HK.out | apply KeepBut.set_ | apply keep_drewN | apply keep_drew | apply keep_alloc) | exact HK.out)) hk (.inl rfl)); have n1_ := Aside0.mk (hb); have n2_ := Aside0.mk (hi); clear HK; clear HB; clear HI0; have HK := n0_; have HB := n1_; have HI0 := n2_; clear n0_ n1_ n2_; (try clear hb); (try clear hb2); (try clear hk); (try clear hi)))
          go_ret
          exact ⟨by first | rfl | (simp [errW_none, errW_some] <;> rfl) | (simp [*, errW_none, errW_some] <;> rfl), by repeat (first | (with_reducible first | exact HI0.out | apply IsS87.alloc | apply IsS87.drewN | apply IsS87.drew | apply IsS87.set_1 | apply IsS87.set_2 | apply IsS87.set_3) | exact HI0.out), by repeat (first | (with_reducible first | exact HB.out | apply below_alloc | apply pw_below_drewN | apply below_drew1 | refine below_set ?_ (IsS87.ge HI0.out)) | exact HB.out), by repeat (first | (with_reducible first | exact HK.out | apply KeepBut.set_ | apply keep_drewN | apply keep_drew | apply keep_alloc) | exact HK.out)⟩
      · replace c5 := Bool.eq_false_iff.mpr c5
        subst c5
        have H1 : ((num_Reader_Take.f s0_0 s0_1 s0_2 s0_3 a1).bind fun bt185 => (if (bt185.1.length : Int) = 8 then (if 7 < (bt185.1.length : Int) then (if 6 < (bt185.1.length : Int) then (if 5 < (bt185.1.length : Int) then (if 4 < (bt185.1.length : Int) then (if 3 < (bt185.1.length : Int) then (if 2 < (bt185.1.length : Int) then (if 1 < (bt185.1.length : Int) then (if 0 < (bt185.1.length : Int) then (some (Go.bits .or .u64 (Go.bits .or .u64 (Go.bits .or .u64 (Go.bits .or .u64 (Go.bits .or .u64 (Go.bits .or .u64 (Go.bits .or .u64 (Go.bits .or .u64 0 (IntKind.u64.wrap ((IntKind.u64.wrap (rd bt185.1 7)) * 72057594037927936))) (IntKind.u64.wrap ((IntKind.u64.wrap (rd bt185.1 6)) * 281474976710656))) (IntKind.u64.wrap ((IntKind.u64.wrap (rd bt185.1 5)) * 1099511627776))) (IntKind.u64.wrap ((IntKind.u64.wrap (rd bt185.1 4)) * 4294967296))) (IntKind.u64.wrap ((IntKind.u64.wrap (rd bt185.1 3)) * 16777216))) (IntKind.u64.wrap ((IntKind.u64.wrap (rd bt185.1 2)) * 65536))) (IntKind.u64.wrap ((IntKind.u64.wrap (rd bt185.1 1)) * 256))) (IntKind.u64.wrap (rd bt185.1 0)), bt185.2.1, bt185.2.2.1, bt185.2.2.2)) else (none)) else (none)) else (none)) else (none)) else (none)) else (none)) else (none)) else (none)) else (if (bt185.1.length : Int) = 7 then (if 6 < (bt185.1.length : Int) then (if 5 < (bt185.1.length : Int) then (if 4 < (bt185.1.length : Int) then (if 3 < (bt185.1.length : Int) then (if 2 < (bt185.1.length : Int) then (if 1 < (bt185.1.length : Int) then (if 0 < (bt185.1.length : Int) then (some (Go.bits .or .u64 (Go.bits .or .u64 (Go.bits .or .u64 (Go.bits .or .u64 (Go.bits .or .u64 (Go.bits .or .u64 (Go.bits .or .u64 0 (IntKind.u64.wrap ((IntKind.u64.wrap (rd bt185.1 6)) * 281474976710656))) (IntKind.u64.wrap ((IntKind.u64.wrap (rd bt185.1 5)) * 1099511627776))) (IntKind.u64.wrap ((IntKind.u64.wrap (rd bt185.1 4)) * 4294967296))) (IntKind.u64.wrap ((IntKind.u64.wrap (rd bt185.1 3)) * 16777216))) (IntKind.u64.wrap ((IntKind.u64.wrap (rd bt185.1 2)) * 65536))) (IntKind.u64.wrap ((IntKind.u64.wrap (rd bt185.1 1)) * 256))) (IntKind.u64.wrap (rd bt185.1 0)), bt185.2.1, bt185.2.2.1, bt185.2.2.2)) else (none)) else (none)) else (none)) else (none)) else (none)) else (none)) else (none)) else (if (bt185.1.length : Int) = 6 then (if 5 < (bt185.1.length : Int) then (if 4 < (bt185.1.length : Int) then (if 3 < (bt185.1.length : Int) then (if 2 < (bt185.1.length : Int) then (if 1 < (bt185.1.length : Int) then (if 0 < (bt185.1.length : Int) then (some (Go.bits .or .u64 (Go.bits .or .u64 (Go.bits .or .u64 (Go.bits .or .u64 (Go.bits .or .u64 (Go.bits .or .u64 0 (IntKind.u64.wrap ((IntKind.u64.wrap (rd bt185.1 5)) * 1099511627776))) (IntKind.u64.wrap ((IntKind.u64.wrap (rd bt185.1 4)) * 4294967296))) (IntKind.u64.wrap ((IntKind.u64.wrap (rd bt185.1 3)) * 16777216))) (IntKind.u64.wrap ((IntKind.u64.wrap (rd bt185.1 2)) * 65536))) (IntKind.u64.wrap ((IntKind.u64.wrap (rd bt185.1 1)) * 256))) (IntKind.u64.wrap (rd bt185.1 0)), bt185.2.1, bt185.2.2.1, bt185.2.2.2)) else (none)) else (none)) else (none)) else (none)) else (none)) else (none)) else (if (bt185.1.length : Int) = 5 then (if 4 < (bt185.1.length : Int) then (if 3 < (bt185.1.length : Int) then (if 2 < (bt185.1.length : Int) then (if 1 < (bt185.1.length : Int) then (if 0 < (bt185.1.length : Int) then (some (Go.bits .or .u64 (Go.bits .or .u64 (Go.bits .or .u64 (Go.bits .or .u64 (Go.bits .or .u64 0 (IntKind.u64.wrap ((IntKind.u64.wrap (rd bt185.1 4)) * 4294967296))) (IntKind.u64.wrap ((IntKind.u64.wrap (rd bt185.1 3)) * 16777216))) (IntKind.u64.wrap ((IntKind.u64.wrap (rd bt185.1 2)) * 65536))) (IntKind.u64.wrap ((IntKind.u64.wrap (rd bt185.1 1)) * 256))) (IntKind.u64.wrap (rd bt185.1 0)), bt185.2.1, bt185.2.2.1, bt185.2.2.2)) else (none)) else (none)) else (none)) else (none)) else (none)) else (if (bt185.1.length : Int) = 4 then (if 3 < (bt185.1.length : Int) then (if 2 < (bt185.1.length : Int) then (if 1 < (bt185.1.length : Int) then (if 0 < (bt185.1.length : Int) then (some (Go.bits .or .u64 (Go.bits .or .u64 (Go.bits .or .u64 (Go.bits .or .u64 0 (IntKind.u64.wrap ((IntKind.u64.wrap (rd bt185.1 3)) * 16777216))) (IntKind.u64.wrap ((IntKind.u64.wrap (rd bt185.1 2)) * 65536))) (IntKind.u64.wrap ((IntKind.u64.wrap (rd bt185.1 1)) * 256))) (IntKind.u64.wrap (rd bt185.1 0)), bt185.2.1, bt185.2.2.1, bt185.2.2.2)) else (none)) else (none)) else (none)) else (none)) else (if (bt185.1.length : Int) = 3 then (if 2 < (bt185.1.length : Int) then (if 1 < (bt185.1.length : Int) then (if 0 < (bt185.1.length : Int) then (some (Go.bits .or .u64 (Go.bits .or .u64 (Go.bits .or .u64 0 (IntKind.u64.wrap ((IntKind.u64.wrap (rd bt185.1 2)) * 65536))) (IntKind.u64.wrap ((IntKind.u64.wrap (rd bt185.1 1)) * 256))) (IntKind.u64.wrap (rd bt185.1 0)), bt185.2.1, bt185.2.2.1, bt185.2.2.2)) else (none)) else (none)) else (none)) else (if (bt185.1.length : Int) = 2 then (if 1 < (bt185.1.length : Int) then (if 0 < (bt185.1.length : Int) then (some (Go.bits .or .u64 (Go.bits .or .u64 0 (IntKind.u64.wrap ((IntKind.u64.wrap (rd bt185.1 1)) * 256))) (IntKind.u64.wrap (rd bt185.1 0)), bt185.2.1, bt185.2.2.1, bt185.2.2.2)) else (none)) else (none)) else (if (bt185.1.length : Int) = 1 then (if 0 < (bt185.1.length : Int) then (some (Go.bits .or .u64 0 (IntKind.u64.wrap (rd bt185.1 0)), bt185.2.1, bt185.2.2.1, bt185.2.2.2)) else (none)) else (some (0, bt185.2.1, bt185.2.2.1, bt185.2.2.2))))))))))) = some (r1, r2, r3, r4) := by rw [if_neg (show ¬ (false = true) by decide)] at H; exact H
        clear H
        have H := H1
        clear H1
        replace H := Option.bind_eq_some_iff.mp H
        obtain ⟨⟨t185, t188, t189, t190⟩, A120, H⟩ := H
        replace H : (if (t185.length : Int) = 8 then (if 7 < (t185.length : Int) then (if 6 < (t185.length : Int) then (if 5 < (t185.length : Int) then (if 4 < (t185.length : Int) then (if 3 < (t185.length : Int) then (if 2 < (t185.length : Int) then (if 1 < (t185.length : Int) then (if 0 < (t185.length : Int) then (some (Go.bits .or .u64 (Go.bits .or .u64 (Go.bits .or .u64 (Go.bits .or .u64 (Go.bits .or .u64 (Go.bits .or .u64 (Go.bits .or .u64 (Go.bits .or .u64 0 (IntKind.u64.wrap ((IntKind.u64.wrap (rd t185 7)) * 72057594037927936))) (IntKind.u64.wrap ((IntKind.u64.wrap (rd t185 6)) * 281474976710656))) (IntKind.u64.wrap ((IntKind.u64.wrap (rd t185 5)) * 1099511627776))) (IntKind.u64.wrap ((IntKind.u64.wrap (rd t185 4)) * 4294967296))) (IntKind.u64.wrap ((IntKind.u64.wrap (rd t185 3)) * 16777216))) (IntKind.u64.wrap ((IntKind.u64.wrap (rd t185 2)) * 65536))) (IntKind.u64.wrap ((IntKind.u64.wrap (rd t185 1)) * 256))) (IntKind.u64.wrap (rd t185 0)), t188, t189, t190)) else (none)) else (none)) else (none)) else (none)) else (none)) else (none)) else (none)) else (none)) else (if (t185.length : Int) = 7 then (if 6 < (t185.length : Int) then (if 5 < (t185.length : Int) then (if 4 < (t185.length : Int) then (if 3 < (t185.length : Int) then (if 2 < (t185.length : Int) then (if 1 < (t185.length : Int) then (if 0 < (t185.length : Int) then (some (Go.bits .or .u64 (Go.bits .or .u64 (Go.bits .or .u64 (Go.bits .or .u64 (Go.bits .or .u64 (Go.bits .or .u64 (Go.bits .or .u64 0 (IntKind.u64.wrap ((IntKind.u64.wrap (rd t185 6)) * 281474976710656))) (IntKind.u64.wrap ((IntKind.u64.wrap (rd t185 5)) * 1099511627776))) (IntKind.u64.wrap ((IntKind.u64.wrap (rd t185 4)) * 4294967296))) (IntKind.u64.wrap ((IntKind.u64.wrap (rd t185 3)) * 16777216))) (IntKind.u64.wrap ((IntKind.u64.wrap (rd t185 2)) * 65536))) (IntKind.u64.wrap ((IntKind.u64.wrap (rd t185 1)) * 256))) (IntKind.u64.wrap (rd t185 0)), t188, t189, t190)) else (none)) else (none)) else (none)) else (none)) else (none)) else (none)) else (none)) else (if (t185.length : Int) = 6 then (if 5 < (t185.length : Int) then (if 4 < (t185.length : Int) then (if 3 < (t185.length : Int) then (if 2 < (t185.length : Int) then (if 1 < (t185.length : Int) then (if 0 < (t185.length : Int) then (some (Go.bits .or .u64 (Go.bits .or .u64 (Go.bits .or .u64 (Go.bits .or .u64 (Go.bits .or .u64 (Go.bits .or .u64 0 (IntKind.u64.wrap ((IntKind.u64.wrap (rd t185 5)) * 1099511627776))) (IntKind.u64.wrap ((IntKind.u64.wrap (rd t185 4)) * 4294967296))) (IntKind.u64.wrap ((IntKind.u64.wrap (rd t185 3)) * 16777216))) (IntKind.u64.wrap ((IntKind.u64.wrap (rd t185 2)) * 65536))) (IntKind.u64.wrap ((IntKind.u64.wrap (rd t185 1)) * 256))) (IntKind.u64.wrap (rd t185 0)), t188, t189, t190)) else (none)) else (none)) else (none)) else (none)) else (none)) else (none)) else (if (t185.length : Int) = 5 then (if 4 < (t185.length : Int) then (if 3 < (t185.length : Int) then (if 2 < (t185.length : Int) then (if 1 < (t185.length : Int) then (if 0 < (t185.length : Int) then (some (Go.bits .or .u64 (Go.bits .or .u64 (Go.bits .or .u64 (Go.bits .or .u64 (Go.bits .or .u64 0 (IntKind.u64.wrap ((IntKind.u64.wrap (rd t185 4)) * 4294967296))) (IntKind.u64.wrap ((IntKind.u64.wrap (rd t185 3)) * 16777216))) (IntKind.u64.wrap ((IntKind.u64.wrap (rd t185 2)) * 65536))) (IntKind.u64.wrap ((IntKind.u64.wrap (rd t185 1)) * 256))) (IntKind.u64.wrap (rd t185 0)), t188, t189, t190)) else (none)) else (none)) else (none)) else (none)) else (none)) else (if (t185.length : Int) = 4 then (if 3 < (t185.length : Int) then (if 2 < (t185.length : Int) then (if 1 < (t185.length : Int) then (if 0 < (t185.length : Int) then (some (Go.bits .or .u64 (Go.bits .or .u64 (Go.bits .or .u64 (Go.bits .or .u64 0 (IntKind.u64.wrap ((IntKind.u64.wrap (rd t185 3)) * 16777216))) (IntKind.u64.wrap ((IntKind.u64.wrap (rd t185 2)) * 65536))) (IntKind.u64.wrap ((IntKind.u64.wrap (rd t185 1)) * 256))) (IntKind.u64.wrap (rd t185 0)), t188, t189, t190)) else (none)) else (none)) else (none)) else (none)) else (if (t185.length : Int) = 3 then (if 2 < (t185.length : Int) then (if 1 < (t185.length : Int) then (if 0 < (t185.length : Int) then (some (Go.bits .or .u64 (Go.bits .or .u64 (Go.bits .or .u64 0 (IntKind.u64.wrap ((IntKind.u64.wrap (rd t185 2)) * 65536))) (IntKind.u64.wrap ((IntKind.u64.wrap (rd t185 1)) * 256))) (IntKind.u64.wrap (rd t185 0)), t188, t189, t190)) else (none)) else (none)) else (none)) else (if (t185.length : Int) = 2 then (if 1 < (t185.length : Int) then (if 0 < (t185.length : Int) then (some (Go.bits .or .u64 (Go.bits .or .u64 0 (IntKind.u64.wrap ((IntKind.u64.wrap (rd t185 1)) * 256))) (IntKind.u64.wrap (rd t185 0)), t188, t189, t190)) else (none)) else (none)) else (if (t185.length : Int) = 1 then (if 0 < (t185.length : Int) then (some (Go.bits .or .u64 0 (IntKind.u64.wrap (rd t185 0)), t188, t189, t190)) else (none)) else (some (0, t188, t189, t190)))))))))) = some (r1, r2, r3, r4) := H
        have A12 := Aside0.mk A120
        clear A120
        by_cases c13 : (t185.length : Int) = 8
        · rw [if_pos c13] at H
          have c13b0 : ((t185.length : Int) == 8) = true := beq_iff_eq.mpr c13
          have c13b1 : ((t185.length : Int) != 8) = false := bne_eq_false_iff_eq.mpr c13
          clear c13
          by_cases c14 : 7 < (t185.length : Int)
          · rw [if_pos c14] at H
            have c14b0 : decide (7 < (t185.length : Int)) = true := decide_eq_true c14
            have c14b1 : decide (7 < t185.length) = true := decide_eq_true (by omega)
            clear c14
            by_cases c15 : 6 < (t185.length : Int)
            · rw [if_pos c15] at H
              have c15b0 : decide (6 < (t185.length : Int)) = true := decide_eq_true c15
              have c15b1 : decide (6 < t185.length) = true := decide_eq_true (by omega)
              clear c15
              by_cases c16 : 5 < (t185.length : Int)
              · rw [if_pos c16] at H
                have c16b0 : decide (5 < (t185.length : Int)) = true := decide_eq_true c16
                have c16b1 : decide (5 < t185.length) = true := decide_eq_true (by omega)
                clear c16
                by_cases c17 : 4 < (t185.length : Int)
                · rw [if_pos c17] at H
                  have c17b0 : decide (4 < (t185.length : Int)) = true := decide_eq_true c17
                  have c17b1 : decide (4 < t185.length) = true := decide_eq_true (by omega)
                  clear c17
                  by_cases c18 : 3 < (t185.length : Int)
                  · rw [if_pos c18] at H
                    have c18b0 : decide (3 < (t185.length : Int)) = true := decide_eq_true c18
                    have c18b1 : decide (3 < t185.length) = true := decide_eq_true (by omega)
                    clear c18
                    by_cases c19 : 2 < (t185.length : Int)
                    · rw [if_pos c19] at H
                      have c19b0 : decide (2 < (t185.length : Int)) = true := decide_eq_true c19
                      have c19b1 : decide (2 < t185.length) = true := decide_eq_true (by omega)
                      clear c19
                      by_cases c20 : 1 < (t185.length : Int)
                      · rw [if_pos c20] at H
                        have c20b0 : decide (1 < (t185.length : Int)) = true := decide_eq_true c20
                        have c20b1 : decide (1 < t185.length) = true := decide_eq_true (by omega)
                        clear c20
                        by_cases c21 : 0 < (t185.length : Int)
                        · rw [if_pos c21] at H
                          have c21b0 : decide (0 < (t185.length : Int)) = true := decide_eq_true c21
                          have c21b1 : decide (0 < t185.length) = true := decide_eq_true (by omega)
                          clear c21
                          simp only [Option.some.injEq, Prod.mk.injEq] at H
                          obtain ⟨rfl, rfl, rfl, rfl⟩ := H
                          go_wp2_with (first | ((with_reducible refine gate_callee (f := 41) rfl ?_); refine goesL_ (some 19) rfl rfl Tryd.func41 (by kernel_rfl) rfl #[.pointer (some ⟨g, 0, none⟩), .int .i64 a1] rfl (by (try simp only [List.map_toArray, List.map_cons, List.map_nil]); first | done | rfl | (simp only [List.length_drop, List.length_take]; rfl)) ?_; (with_reducible refine (num_Reader_Take.calls g s0_0 s0_1 s0_2 s0_3 a1 t185 t188 t189 t190 w0 _ ?side1 ?side2 A12.out).mono ?_); (case side1 => repeat (first | (with_reducible first | exact HI0.out | apply IsS87.alloc | apply IsS87.drewN | apply IsS87.drew | apply IsS87.set_1 | apply IsS87.set_2 | apply IsS87.set_3) | exact HI0.out)); (case side2 => repeat (first | (with_reducible first | exact HB.out | apply below_alloc | apply pw_below_drewN | apply below_drew1 | refine below_set ?_ (IsS87.ge HI0.out)) | exact HB.out)); rintro e w22 ⟨v186, rfl, ho0, hi, hb, hk⟩; refine ⟨_, rfl, ?_⟩; have n0_ := Aside0.mk (Kd.R_lower ho0 (keep_size (w := w) (g := g) (row := none) (by repeat (first | (with_reducible first | exact HK.out | apply KeepBut.set_ | apply keep_drewN | apply keep_drew | apply keep_alloc) | exact HK.out)))); have n1_ := Aside0.mk (KeepBut.trans (by repeat (first | (with_reducible first | exact HK.out | apply KeepBut.set_ | apply keep_drewN | apply keep_drew | apply keep_alloc) | exact HK.out)) hk (.inl rfl)); have n2_ := Aside0.mk (hb); have n3_ := Aside0.mk (hi); clear HK; clear HB; clear HI0; have HO187 := n0_; have HK := n1_; have HB := n2_; have HI0 := n3_; clear n0_ n1_ n2_ n3_; (try clear hb); (try clear hb2); (try clear hk); (try clear hi); (try clear ho0); obtain ⟨Ao23, co23, eo23⟩ := Kd.R_slice HO187.out; subst eo23; have p191 : 0 ≤ (7 : Int) := (by omega); have q191 : 7 < (t185.length : Int) := of_decide_eq_true (by first | (with_reducible assumption) | assumption); obtain ⟨ad191, e191, hx191_0⟩ := Kd.at_int (Kd.R_reads' HO187.out).2.2 7 p191 q191; cases e191; (try simp only [show (7 : Int).toNat = 7 from rfl, Nat.reduceMul, Nat.reduceEqDiff, Go.Addr.add, ↓reduceIte] at hx191_0); have qi191 : (7 < t185.length) = True := eq_true (by omega); (try rw [show ((7 : Int)).toNat = 7 from rfl] at hx191_0); replace p191 := eq_true p191; replace q191 := eq_true q191; have p192 : 0 ≤ (6 : Int) := (by omega); have q192 : 6 < (t185.length : Int) := of_decide_eq_true (by first | (with_reducible assumption) | assumption); obtain ⟨ad192, e192, hx192_0⟩ := Kd.at_int (Kd.R_reads' HO187.out).2.2 6 p192 q192; obtain rfl : ad191 = ad192 := (by injection e192); (try simp only [show (6 : Int).toNat = 6 from rfl, Nat.reduceMul, Nat.reduceEqDiff, Go.Addr.add, ↓reduceIte] at hx192_0); have qi192 : (6 < t185.length) = True := eq_true (by omega); (try rw [show ((6 : Int)).toNat = 6 from rfl] at hx192_0); replace p192 := eq_true p192; replace q192 := eq_true q192; have p193 : 0 ≤ (5 : Int) := (by omega); have q193 : 5 < (t185.length : Int) := of_decide_eq_true (by first | (with_reducible assumption) | assumption); obtain ⟨ad193, e193, hx193_0⟩ := Kd.at_int (Kd.R_reads' HO187.out).2.2 5 p193 q193; obtain rfl : ad191 = ad193 := (by injection e193); (try simp only [show (5 : Int).toNat = 5 from rfl, Nat.reduceMul, Nat.reduceEqDiff, Go.Addr.add, ↓reduceIte] at hx193_0); have qi193 : (5 < t185.length) = True := eq_true (by omega); (try rw [show ((5 : Int)).toNat = 5 from rfl] at hx193_0); replace p193 := eq_true p193; replace q193 := eq_true q193; have p194 : 0 ≤ (4 : Int) := (by omega); have q194 : 4 < (t185.length : Int) := of_decide_eq_true (by first | (with_reducible assumption) | assumption); obtain ⟨ad194, e194, hx194_0⟩ := Kd.at_int (Kd.R_reads' HO187.out).2.2 4 p194 q194; obtain rfl : ad191 = ad194 := (by injection e194); (try simp only [show (4 : Int).toNat = 4 from rfl, Nat.reduceMul, Nat.reduceEqDiff, Go.Addr.add, ↓reduceIte] at hx194_0); have qi194 : (4 < t185.length) = True := eq_true (by omega); (try rw [show ((4 : Int)).toNat = 4 from rfl] at hx194_0); replace p194 := eq_true p194; replace q194 := eq_true q194; have p195 : 0 ≤ (3 : Int) := (by omega); have q195 : 3 < (t185.length : Int) := of_decide_eq_true (by first | (with_reducible assumption) | assumption); obtain ⟨ad195, e195, hx195_0⟩ := Kd.at_int (Kd.R_reads' HO187.out).2.2 3 p195 q195; obtain rfl : ad191 = ad195 := (by injection e195); (try simp only [show (3 : Int).toNat = 3 from rfl, Nat.reduceMul, Nat.reduceEqDiff, Go.Addr.add, ↓reduceIte] at hx195_0); have qi195 : (3 < t185.length) = True := eq_true (by omega); (try rw [show ((3 : Int)).toNat = 3 from rfl] at hx195_0); replace p195 := eq_true p195; replace q195 := eq_true q195; have p196 : 0 ≤ (2 : Int) := (by omega); have q196 : 2 < (t185.length : Int) := of_decide_eq_true (by first | (with_reducible assumption) | assumption); obtain ⟨ad196, e196, hx196_0⟩ := Kd.at_int (Kd.R_reads' HO187.out).2.2 2 p196 q196; obtain rfl : ad191 = ad196 := (by injection e196); (try simp only [show (2 : Int).toNat = 2 from rfl, Nat.reduceMul, Nat.reduceEqDiff, Go.Addr.add, ↓reduceIte] at hx196_0); have qi196 : (2 < t185.length) = True := eq_true (by omega); (try rw [show ((2 : Int)).toNat = 2 from rfl] at hx196_0); replace p196 := eq_true p196; replace q196 := eq_true q196; have p197 : 0 ≤ (1 : Int) := (by omega); have q197 : 1 < (t185.length : Int) := of_decide_eq_true (by first | (with_reducible assumption) | assumption); obtain ⟨ad197, e197, hx197_0⟩ := Kd.at_int (Kd.R_reads' HO187.out).2.2 1 p197 q197; obtain rfl : ad191 = ad197 := (by injection e197); (try simp only [show (1 : Int).toNat = 1 from rfl, Nat.reduceMul, Nat.reduceEqDiff, Go.Addr.add, ↓reduceIte] at hx197_0); have qi197 : (1 < t185.length) = True := eq_true (by omega); (try rw [show ((1 : Int)).toNat = 1 from rfl] at hx197_0); replace p197 := eq_true p197; replace q197 := eq_true q197; have p198 : 0 ≤ (0 : Int) := (by omega); have q198 : 0 < (t185.length : Int) := of_decide_eq_true (by first | (with_reducible assumption) | assumption); obtain ⟨ad198, e198, hx198_0⟩ := Kd.at_int (Kd.R_reads' HO187.out).2.2 0 p198 q198; obtain rfl : ad191 = ad198 := (by injection e198); have qi198 : (0 < t185.length) = True := eq_true (by omega); (try rw [show ((0 : Int)).toNat = 0 from rfl] at hx198_0); (try rw [Addr.add_zero'] at hx198_0); replace p198 := eq_true p198; replace q198 := eq_true q198))
                          go_ret
                          exact ⟨by first | rfl | (simp [errW_none, errW_some] <;> rfl) | (simp [*, errW_none, errW_some] <;> rfl), by repeat (first | (with_reducible first | exact HI0.out | apply IsS87.alloc | apply IsS87.drewN | apply IsS87.drew | apply IsS87.set_1 | apply IsS87.set_2 | apply IsS87.set_3) | exact HI0.out), by repeat (first | (with_reducible first | exact HB.out | apply below_alloc | apply pw_below_drewN | apply below_drew1 | refine below_set ?_ (IsS87.ge HI0.out)) | exact HB.out), by repeat (first | (with_reducible first | exact HK.out | apply KeepBut.set_ | apply keep_drewN | apply keep_drew | apply keep_alloc) | exact HK.out)⟩
                        · rw [if_neg c21] at H
                          exact absurd H (by simp)
                      · rw [if_neg c20] at H
                        exact absurd H (by simp)
                    · rw [if_neg c19] at H
                      exact absurd H (by simp)
                  · rw [if_neg c18] at H
                    exact absurd H (by simp)
                · rw [if_neg c17] at H
                  exact absurd H (by simp)
              · rw [if_neg c16] at H
                exact absurd H (by simp)
            · rw [if_neg c15] at H
              exact absurd H (by simp)
          · rw [if_neg c14] at H
            exact absurd H (by simp)
        · rw [if_neg c13] at H
          have c13b0 : ((t185.length : Int) == 8) = false := beq_eq_false_iff_ne.mpr c13
          have c13b1 : ((t185.length : Int) != 8) = true := bne_iff_ne.mpr c13
          by_cases c24 : (t185.length : Int) = 7
          · rw [if_pos c24] at H
            have c24b0 : ((t185.length : Int) == 7) = true := beq_iff_eq.mpr c24
            have c24b1 : ((t185.length : Int) != 7) = false := bne_eq_false_iff_eq.mpr c24
            clear c24
            by_cases c25 : 6 < (t185.length : Int)
            · rw [if_pos c25] at H
              have c25b0 : decide (6 < (t185.length : Int)) = true := decide_eq_true c25
              have c25b1 : decide (6 < t185.length) = true := decide_eq_true (by omega)
              clear c25
              by_cases c26 : 5 < (t185.length : Int)
              · rw [if_pos c26] at H
                have c26b0 : decide (5 < (t185.length : Int)) = true := decide_eq_true c26
                have c26b1 : decide (5 < t185.length) = true := decide_eq_true (by omega)
                clear c26
                by_cases c27 : 4 < (t185.length : Int)
                · rw [if_pos c27] at H
                  have c27b0 : decide (4 < (t185.length : Int)) = true := decide_eq_true c27
                  have c27b1 : decide (4 < t185.length) = true := decide_eq_true (by omega)
                  clear c27
                  by_cases c28 : 3 < (t185.length : Int)
                  · rw [if_pos c28] at H
                    have c28b0 : decide (3 < (t185.length : Int)) = true := decide_eq_true c28
                    have c28b1 : decide (3 < t185.length) = true := decide_eq_true (by omega)
                    clear c28
                    by_cases c29 : 2 < (t185.length : Int)
                    · rw [if_pos c29] at H
                      have c29b0 : decide (2 < (t185.length : Int)) = true := decide_eq_true c29
                      have c29b1 : decide (2 < t185.length) = true := decide_eq_true (by omega)
                      clear c29
                      by_cases c30 : 1 < (t185.length : Int)
                      · rw [if_pos c30] at H
                        have c30b0 : decide (1 < (t185.length : Int)) = true := decide_eq_true c30
                        have c30b1 : decide (1 < t185.length) = true := decide_eq_true (by omega)
                        clear c30
                        by_cases c31 : 0 < (t185.length : Int)
                        · rw [if_pos c31] at H
                          have c31b0 : decide (0 < (t185.length : Int)) = true := decide_eq_true c31
                          have c31b1 : decide (0 < t185.length) = true := decide_eq_true (by omega)
                          clear c31
                          simp only [Option.some.injEq, Prod.mk.injEq] at H
                          obtain ⟨rfl, rfl, rfl, rfl⟩ := H
                          go_wp2_with (first | ((with_reducible refine gate_callee (f := 41) rfl ?_); refine goesL_ (some 19) rfl rfl Tryd.func41 (by kernel_rfl) rfl #[.pointer (some ⟨g, 0, none⟩), .int .i64 a1] rfl (by (try simp only [List.map_toArray, List.map_cons, List.map_nil]); first | done | rfl | (simp only [List.length_drop, List.length_take]; rfl)) ?_; (with_reducible refine (num_Reader_Take.calls g s0_0 s0_1 s0_2 s0_3 a1 t185 t188 t189 t190 w0 _ ?side1 ?side2 A12.out).mono ?_); (case side1 => repeat (first | (with_reducible first | exact HI0.out | apply IsS87.alloc | apply IsS87.drewN | apply IsS87.drew | apply IsS87.set_1 | apply IsS87.set_2 | apply IsS87.set_3) | exact HI0.out)); (case side2 => repeat (first | (with_reducible first | exact HB.out | apply below_alloc | apply pw_below_drewN | apply below_drew1 | refine below_set ?_ (IsS87.ge HI0.out)) | exact HB.out)); rintro e w32 ⟨v186, rfl, ho0, hi, hb, hk⟩; refine ⟨_, rfl, ?_⟩; have n0_ := Aside0.mk (Kd.R_lower ho0 (keep_size (w := w) (g := g) (row := none) (by repeat (first | (with_reducible first | exact HK.out | apply KeepBut.set_ | apply keep_drewN | apply keep_drew | apply keep_alloc) | exact HK.out)))); have n1_ := Aside0.mk (KeepBut.trans (by repeat (first | (with_reducible first | exact HK.out | apply KeepBut.set_ | apply keep_drewN | apply keep_drew | apply keep_alloc) | exact HK.out)) hk (.inl rfl)); have n2_ := Aside0.mk (hb); have n3_ := Aside0.mk (hi); clear HK; clear HB; clear HI0; have HO187 := n0_; have HK := n1_; have HB := n2_; have HI0 := n3_; clear n0_ n1_ n2_ n3_; (try clear hb); (try clear hb2); (try clear hk); (try clear hi); (try clear ho0); obtain ⟨Ao33, co33, eo33⟩ := Kd.R_slice HO187.out; subst eo33; have p199 : 0 ≤ (6 : Int) := (by omega); have q199 : 6 < (t185.length : Int) := of_decide_eq_true (by first | (with_reducible assumption) | assumption); obtain ⟨ad199, e199, hx199_0⟩ := Kd.at_int (Kd.R_reads' HO187.out).2.2 6 p199 q199; cases e199; (try simp only [show (6 : Int).toNat = 6 from rfl, Nat.reduceMul, Nat.reduceEqDiff, Go.Addr.add, ↓reduceIte] at hx199_0); have qi199 : (6 < t185.length) = True := eq_true (by omega); (try rw [show ((6 : Int)).toNat = 6 from rfl] at hx199_0); replace p199 := eq_true p199; replace q199 := eq_true q199; have p200 : 0 ≤ (5 : Int) := (by omega); have q200 : 5 < (t185.length : Int) := of_decide_eq_true (by first | (with_reducible assumption) | assumption); obtain ⟨ad200, e200, hx200_0⟩ := Kd.at_int (Kd.R_reads' HO187.out).2.2 5 p200 q200; obtain rfl : ad199 = ad200 := (by injection e200); (try simp only [show (5 : Int).toNat = 5 from rfl, Nat.reduceMul, Nat.reduceEqDiff, Go.Addr.add, ↓reduceIte] at hx200_0); have qi200 : (5 < t185.length) = True := eq_true (by omega); (try rw [show ((5 : Int)).toNat = 5 from rfl] at hx200_0); replace p200 := eq_true p200; replace q200 := eq_true q200; have p201 : 0 ≤ (4 : Int) := (by omega); have q201 : 4 < (t185.length : Int) := of_decide_eq_true (by first | (with_reducible assumption) | assumption); obtain ⟨ad201, e201, hx201_0⟩ := Kd.at_int (Kd.R_reads' HO187.out).2.2 4 p201 q201; obtain rfl : ad199 = ad201 := (by injection e201); (try simp only [show (4 : Int).toNat = 4 from rfl, Nat.reduceMul, Nat.reduceEqDiff, Go.Addr.add, ↓reduceIte] at hx201_0); have qi201 : (4 < t185.length) = True := eq_true (by omega); (try rw [show ((4 : Int)).toNat = 4 from rfl] at hx201_0); replace p201 := eq_true p201; replace q201 := eq_true q201; have p202 : 0 ≤ (3 : Int) := (by omega); have q202 : 3 < (t185.length : Int) := of_decide_eq_true (by first | (with_reducible assumption) | assumption); obtain ⟨ad202, e202, hx202_0⟩ := Kd.at_int (Kd.R_reads' HO187.out).2.2 3 p202 q202; obtain rfl : ad199 = ad202 := (by injection e202); (try simp only [show (3 : Int).toNat = 3 from rfl, Nat.reduceMul, Nat.reduceEqDiff, Go.Addr.add, ↓reduceIte] at hx202_0); have qi202 : (3 < t185.length) = True := eq_true (by omega); (try rw [show ((3 : Int)).toNat = 3 from rfl] at hx202_0); replace p202 := eq_true p202; replace q202 := eq_true q202; have p203 : 0 ≤ (2 : Int) := (by omega); have q203 : 2 < (t185.length : Int) := of_decide_eq_true (by first | (with_reducible assumption) | assumption); obtain ⟨ad203, e203, hx203_0⟩ := Kd.at_int (Kd.R_reads' HO187.out).2.2 2 p203 q203; obtain rfl : ad199 = ad203 := (by injection e203); (try simp only [show (2 : Int).toNat = 2 from rfl, Nat.reduceMul, Nat.reduceEqDiff, Go.Addr.add, ↓reduceIte] at hx203_0); have qi203 : (2 < t185.length) = True := eq_true (by omega); (try rw [show ((2 : Int)).toNat = 2 from rfl] at hx203_0); replace p203 := eq_true p203; replace q203 := eq_true q203; have p204 : 0 ≤ (1 : Int) := (by omega); have q204 : 1 < (t185.length : Int) := of_decide_eq_true (by first | (with_reducible assumption) | assumption); obtain ⟨ad204, e204, hx204_0⟩ := Kd.at_int (Kd.R_reads' HO187.out).2.2 1 p204 q204; obtain rfl : ad199 = ad204 := (by injection e204); (try simp only [show (1 : Int).toNat = 1 from rfl, Nat.reduceMul, Nat.reduceEqDiff, Go.Addr.add, ↓reduceIte] at hx204_0); have qi204 : (1 < t185.length) = True := eq_true (by omega); (try rw [show ((1 : Int)).toNat = 1 from rfl] at hx204_0); replace p204 := eq_true p204; replace q204 := eq_true q204; have p205 : 0 ≤ (0 : Int) := (by omega); have q205 : 0 < (t185.length : Int) := of_decide_eq_true (by first | (with_reducible assumption) | assumption); obtain ⟨ad205, e205, hx205_0⟩ := Kd.at_int (Kd.R_reads' HO187.out).2.2 0 p205 q205; obtain rfl : ad199 = ad205 := (by injection e205); have qi205 : (0 < t185.length) = True := eq_true (by omega); (try rw [show ((0 : Int)).toNat = 0 from rfl] at hx205_0); (try rw [Addr.add_zero'] at hx205_0); replace p205 := eq_true p205; replace q205 := eq_true q205))
                          go_ret
                          exact ⟨by first | rfl | (simp [errW_none, errW_some] <;> rfl) | (simp [*, errW_none, errW_some] <;> rfl), by repeat (first | (with_reducible first | exact HI0.out | apply IsS87.alloc | apply IsS87.drewN | apply IsS87.drew | apply IsS87.set_1 | apply IsS87.set_2 | apply IsS87.set_3) | exact HI0.out), by repeat (first | (with_reducible first | exact HB.out | apply below_alloc | apply pw_below_drewN | apply below_drew1 | refine below_set ?_ (IsS87.ge HI0.out)) | exact HB.out), by repeat (first | (with_reducible first | exact HK.out | apply KeepBut.set_ | apply keep_drewN | apply keep_drew | apply keep_alloc) | exact HK.out)⟩
                        · rw [if_neg c31] at H
                          exact absurd H (by simp)
                      · rw [if_neg c30] at H
                        exact absurd H (by simp)
                    · rw [if_neg c29] at H
                      exact absurd H (by simp)
                  · rw [if_neg c28] at H
                    exact absurd H (by simp)
                · rw [if_neg c27] at H
                  exact absurd H (by simp)
              · rw [if_neg c26] at H
                exact absurd H (by simp)
            · rw [if_neg c25] at H
              exact absurd H (by simp)
          · rw [if_neg c24] at H
            have c24b0 : ((t185.length : Int) == 7) = false := beq_eq_false_iff_ne.mpr c24
            have c24b1 : ((t185.length : Int) != 7) = true := bne_iff_ne.mpr c24
            by_cases c34 : (t185.length : Int) = 6
            · rw [if_pos c34] at H
              have c34b0 : ((t185.length : Int) == 6) = true := beq_iff_eq.mpr c34
              have c34b1 : ((t185.length : Int) != 6) = false := bne_eq_false_iff_eq.mpr c34
              clear c34
              by_cases c35 : 5 < (t185.length : Int)
              · rw [if_pos c35] at H
                have c35b0 : decide (5 < (t185.length : Int)) = true := decide_eq_true c35
                have c35b1 : decide (5 < t185.length) = true := decide_eq_true (by omega)
                clear c35
                by_cases c36 : 4 < (t185.length : Int)
                · rw [if_pos c36] at H
                  have c36b0 : decide (4 < (t185.length : Int)) = true := decide_eq_true c36
                  have c36b1 : decide (4 < t185.length) = true := decide_eq_true (by omega)
                  clear c36
                  by_cases c37 : 3 < (t185.length : Int)
                  · rw [if_pos c37] at H
                    have c37b0 : decide (3 < (t185.length : Int)) = true := decide_eq_true c37
                    have c37b1 : decide (3 < t185.length) = true := decide_eq_true (by omega)
                    clear c37
                    by_cases c38 : 2 < (t185.length : Int)
                    · rw [if_pos c38] at H
                      have c38b0 : decide (2 < (t185.length : Int)) = true := decide_eq_true c38
                      have c38b1 : decide (2 < t185.length) = true := decide_eq_true (by omega)
                      clear c38
                      by_cases c39 : 1 < (t185.length : Int)
                      · rw [if_pos c39] at H
                        have c39b0 : decide (1 < (t185.length : Int)) = true := decide_eq_true c39
                        have c39b1 : decide (1 < t185.length) = true := decide_eq_true (by omega)
                        clear c39
                        by_cases c40 : 0 < (t185.length : Int)
                        · rw [if_pos c40] at H
                          have c40b0 : decide (0 < (t185.length : Int)) = true := decide_eq_true c40
                          have c40b1 : decide (0 < t185.length) = true := decide_eq_true (by omega)
                          clear c40
                          simp only [Option.some.injEq, Prod.mk.injEq] at H
                          obtain ⟨rfl, rfl, rfl, rfl⟩ := H
                          go_wp2_with (first | ((with_reducible refine gate_callee (f := 41) rfl ?_); refine goesL_ (some 19) rfl rfl Tryd.func41 (by kernel_rfl) rfl #[.pointer (some ⟨g, 0, none⟩), .int .i64 a1] rfl (by (try simp only [List.map_toArray, List.map_cons, List.map_nil]); first | done | rfl | (simp only [List.length_drop, List.length_take]; rfl)) ?_; (with_reducible refine (num_Reader_Take.calls g s0_0 s0_1 s0_2 s0_3 a1 t185 t188 t189 t190 w0 _ ?side1 ?side2 A12.out).mono ?_); (case side1 => repeat (first | (with_reducible first | exact HI0.out | apply IsS87.alloc | apply IsS87.drewN | apply IsS87.drew | apply IsS87.set_1 | apply IsS87.set_2 | apply IsS87.set_3) | exact HI0.out)); (case side2 => repeat (first | (with_reducible first | exact HB.out | apply below_alloc | apply pw_below_drewN | apply below_drew1 | refine below_set ?_ (IsS87.ge HI0.out)) | exact HB.out)); rintro e w41 ⟨v186, rfl, ho0, hi, hb, hk⟩; refine ⟨_, rfl, ?_⟩; have n0_ := Aside0.mk (Kd.R_lower ho0 (keep_size (w := w) (g := g) (row := none) (by repeat (first | (with_reducible first | exact HK.out | apply KeepBut.set_ | apply keep_drewN | apply keep_drew | apply keep_alloc) | exact HK.out)))); have n1_ := Aside0.mk (KeepBut.trans (by repeat (first | (with_reducible first | exact HK.out | apply KeepBut.set_ | apply keep_drewN | apply keep_drew | apply keep_alloc) | exact HK.out)) hk (.inl rfl)); have n2_ := Aside0.mk (hb); have n3_ := Aside0.mk (hi); clear HK; clear HB; clear HI0; have HO187 := n0_; have HK := n1_; have HB := n2_; have HI0 := n3_; clear n0_ n1_ n2_ n3_; (try clear hb); (try clear hb2); (try clear hk); (try clear hi); (try clear ho0); obtain ⟨Ao42, co42, eo42⟩ := Kd.R_slice HO187.out; subst eo42; have p206 : 0 ≤ (5 : Int) := (by omega); have q206 : 5 < (t185.length : Int) := of_decide_eq_true (by first | (with_reducible assumption) | assumption); obtain ⟨ad206, e206, hx206_0⟩ := Kd.at_int (Kd.R_reads' HO187.out).2.2 5 p206 q206; cases e206; (try simp only [show (5 : Int).toNat = 5 from rfl, Nat.reduceMul, Nat.reduceEqDiff, Go.Addr.add, ↓reduceIte] at hx206_0); have qi206 : (5 < t185.length) = True := eq_true (by omega); (try rw [show ((5 : Int)).toNat = 5 from rfl] at hx206_0); replace p206 := eq_true p206; replace q206 := eq_true q206; have p207 : 0 ≤ (4 : Int) := (by omega); have q207 : 4 < (t185.length : Int) := of_decide_eq_true (by first | (with_reducible assumption) | assumption); obtain ⟨ad207, e207, hx207_0⟩ := Kd.at_int (Kd.R_reads' HO187.out).2.2 4 p207 q207; obtain rfl : ad206 = ad207 := (by injection e207); (try simp only [show (4 : Int).toNat = 4 from rfl, Nat.reduceMul, Nat.reduceEqDiff, Go.Addr.add, ↓reduceIte] at hx207_0); have qi207 : (4 < t185.length) = True := eq_true (by omega); (try rw [show ((4 : Int)).toNat = 4 from rfl] at hx207_0); replace p207 := eq_true p207; replace q207 := eq_true q207; have p208 : 0 ≤ (3 : Int) := (by omega); have q208 : 3 < (t185.length : Int) := of_decide_eq_true (by first | (with_reducible assumption) | assumption); obtain ⟨ad208, e208, hx208_0⟩ := Kd.at_int (Kd.R_reads' HO187.out).2.2 3 p208 q208; obtain rfl : ad206 = ad208 := (by injection e208); (try simp only [show (3 : Int).toNat = 3 from rfl, Nat.reduceMul, Nat.reduceEqDiff, Go.Addr.add, ↓reduceIte] at hx208_0); have qi208 : (3 < t185.length) = True := eq_true (by omega); (try rw [show ((3 : Int)).toNat = 3 from rfl] at hx208_0); replace p208 := eq_true p208; replace q208 := eq_true q208; have p209 : 0 ≤ (2 : Int) := (by omega); have q209 : 2 < (t185.length : Int) := of_decide_eq_true (by first | (with_reducible assumption) | assumption); obtain ⟨ad209, e209, hx209_0⟩ := Kd.at_int (Kd.R_reads' HO187.out).2.2 2 p209 q209; obtain rfl : ad206 = ad209 := (by injection e209); (try simp only [show (2 : Int).toNat = 2 from rfl, Nat.reduceMul, Nat.reduceEqDiff, Go.Addr.add, ↓reduceIte] at hx209_0); have qi209 : (2 < t185.length) = True := eq_true (by omega); (try rw [show ((2 : Int)).toNat = 2 from rfl] at hx209_0); replace p209 := eq_true p209; replace q209 := eq_true q209; have p210 : 0 ≤ (1 : Int) := (by omega); have q210 : 1 < (t185.length : Int) := of_decide_eq_true (by first | (with_reducible assumption) | assumption); obtain ⟨ad210, e210, hx210_0⟩ := Kd.at_int (Kd.R_reads' HO187.out).2.2 1 p210 q210; obtain rfl : ad206 = ad210 := (by injection e210); (try simp only [show (1 : Int).toNat = 1 from rfl, Nat.reduceMul, Nat.reduceEqDiff, Go.Addr.add, ↓reduceIte] at hx210_0); have qi210 : (1 < t185.length) = True := eq_true (by omega); (try rw [show ((1 : Int)).toNat = 1 from rfl] at hx210_0); replace p210 := eq_true p210; replace q210 := eq_true q210; have p211 : 0 ≤ (0 : Int) := (by omega); have q211 : 0 < (t185.length : Int) := of_decide_eq_true (by first | (with_reducible assumption) | assumption); obtain ⟨ad211, e211, hx211_0⟩ := Kd.at_int (Kd.R_reads' HO187.out).2.2 0 p211 q211; obtain rfl : ad206 = ad211 := (by injection e211); have qi211 : (0 < t185.length) = True := eq_true (by omega); (try rw [show ((0 : Int)).toNat = 0 from rfl] at hx211_0); (try rw [Addr.add_zero'] at hx211_0); replace p211 := eq_true p211; replace q211 := eq_true q211))
                          go_ret
                          exact ⟨by first | rfl | (simp [errW_none, errW_some] <;> rfl) | (simp [*, errW_none, errW_some] <;> rfl), by repeat (first | (with_reducible first | exact HI0.out | apply IsS87.alloc | apply IsS87.drewN | apply IsS87.drew | apply IsS87.set_1 | apply IsS87.set_2 | apply IsS87.set_3) | exact HI0.out), by repeat (first | (with_reducible first | exact HB.out | apply below_alloc | apply pw_below_drewN | apply below_drew1 | refine below_set ?_ (IsS87.ge HI0.out)) | exact HB.out), by repeat (first | (with_reducible first | exact HK.out | apply KeepBut.set_ | apply keep_drewN | apply keep_drew | apply keep_alloc) | exact HK.out)⟩
                        · rw [if_neg c40] at H
                          exact absurd H (by simp)
                      · rw [if_neg c39] at H
                        exact absurd H (by simp)
                    · rw [if_neg c38] at H
                      exact absurd H (by simp)
                  · rw [if_neg c37] at H
                    exact absurd H (by simp)
                · rw [if_neg c36] at H
                  exact absurd H (by simp)
              · rw [if_neg c35] at H
                exact absurd H (by simp)
            · rw [if_neg c34] at H
              have c34b0 : ((t185.length : Int) == 6) = false := beq_eq_false_iff_ne.mpr c34
              have c34b1 : ((t185.length : Int) != 6) = true := bne_iff_ne.mpr c34
              by_cases c43 : (t185.length : Int) = 5
              · rw [if_pos c43] at H
                have c43b0 : ((t185.length : Int) == 5) = true := beq_iff_eq.mpr c43
                have c43b1 : ((t185.length : Int) != 5) = false := bne_eq_false_iff_eq.mpr c43
                clear c43
                by_cases c44 : 4 < (t185.length : Int)
                · rw [if_pos c44] at H
                  have c44b0 : decide (4 < (t185.length : Int)) = true := decide_eq_true c44
                  have c44b1 : decide (4 < t185.length) = true := decide_eq_true (by omega)
                  clear c44
                  by_cases c45 : 3 < (t185.length : Int)
                  · rw [if_pos c45] at H
                    have c45b0 : decide (3 < (t185.length : Int)) = true := decide_eq_true c45
                    have c45b1 : decide (3 < t185.length) = true := decide_eq_true (by omega)
                    clear c45
                    by_cases c46 : 2 < (t185.length : Int)
                    · rw [if_pos c46] at H
                      have c46b0 : decide (2 < (t185.length : Int)) = true := decide_eq_true c46
                      have c46b1 : decide (2 < t185.length) = true := decide_eq_true (by omega)
                      clear c46
                      by_cases c47 : 1 < (t185.length : Int)
                      · rw [if_pos c47] at H
                        have c47b0 : decide (1 < (t185.length : Int)) = true := decide_eq_true c47
                        have c47b1 : decide (1 < t185.length) = true := decide_eq_true (by omega)
                        clear c47
                        by_cases c48 : 0 < (t185.length : Int)
                        · rw [if_pos c48] at H
                          have c48b0 : decide (0 < (t185.length : Int)) = true := decide_eq_true c48
                          have c48b1 : decide (0 < t185.length) = true := decide_eq_true (by omega)
                          clear c48
                          simp only [Option.some.injEq, Prod.mk.injEq] at H
                          obtain ⟨rfl, rfl, rfl, rfl⟩ := H
                          go_wp2_with (first | ((with_reducible refine gate_callee (f := 41) rfl ?_); refine goesL_ (some 19) rfl rfl Tryd.func41 (by kernel_rfl) rfl #[.pointer (some ⟨g, 0, none⟩), .int .i64 a1] rfl (by (try simp only [List.map_toArray, List.map_cons, List.map_nil]); first | done | rfl | (simp only [List.length_drop, List.length_take]; rfl)) ?_; (with_reducible refine (num_Reader_Take.calls g s0_0 s0_1 s0_2 s0_3 a1 t185 t188 t189 t190 w0 _ ?side1 ?side2 A12.out).mono ?_); (case side1 => repeat (first | (with_reducible first | exact HI0.out | apply IsS87.alloc | apply IsS87.drewN | apply IsS87.drew | apply IsS87.set_1 | apply IsS87.set_2 | apply IsS87.set_3) | exact HI0.out)); (case side2 => repeat (first | (with_reducible first | exact HB.out | apply below_alloc | apply pw_below_drewN | apply below_drew1 | refine below_set ?_ (IsS87.ge HI0.out)) | exact HB.out)); rintro e w49 ⟨v186, rfl, ho0, hi, hb, hk⟩; refine ⟨_, rfl, ?_⟩; have n0_ := Aside0.mk (Kd.R_lower ho0 (keep_size (w := w) (g := g) (row := none) (by repeat (first | (with_reducible first | exact HK.out | apply KeepBut.set_ | apply keep_drewN | apply keep_drew | apply keep_alloc) | exact HK.out)))); have n1_ := Aside0.mk (KeepBut.trans (by repeat (first | (with_reducible first | exact HK.out | apply KeepBut.set_ | apply keep_drewN | apply keep_drew | apply keep_alloc) | exact HK.out)) hk (.inl rfl)); have n2_ := Aside0.mk (hb); have n3_ := Aside0.mk (hi); clear HK; clear HB; clear HI0; have HO187 := n0_; have HK := n1_; have HB := n2_; have HI0 := n3_; clear n0_ n1_ n2_ n3_; (try clear hb); (try clear hb2); (try clear hk); (try clear hi); (try clear ho0); obtain ⟨Ao50, co50, eo50⟩ := Kd.R_slice HO187.out; subst eo50; have p212 : 0 ≤ (4 : Int) := (by omega); have q212 : 4 < (t185.length : Int) := of_decide_eq_true (by first | (with_reducible assumption) | assumption); obtain ⟨ad212, e212, hx212_0⟩ := Kd.at_int (Kd.R_reads' HO187.out).2.2 4 p212 q212; cases e212; (try simp only [show (4 : Int).toNat = 4 from rfl, Nat.reduceMul, Nat.reduceEqDiff, Go.Addr.add, ↓reduceIte] at hx212_0); have qi212 : (4 < t185.length) = True := eq_true (by omega); (try rw [show ((4 : Int)).toNat = 4 from rfl] at hx212_0); replace p212 := eq_true p212; replace q212 := eq_true q212; have p213 : 0 ≤ (3 : Int) := (by omega); have q213 : 3 < (t185.length : Int) := of_decide_eq_true (by first | (with_reducible assumption) | assumption); obtain ⟨ad213, e213, hx213_0⟩ := Kd.at_int (Kd.R_reads' HO187.out).2.2 3 p213 q213; obtain rfl : ad212 = ad213 := (by injection e213); (try simp only [show (3 : Int).toNat = 3 from rfl, Nat.reduceMul, Nat.reduceEqDiff, Go.Addr.add, ↓reduceIte] at hx213_0); have qi213 : (3 < t185.length) = True := eq_true (by omega); (try rw [show ((3 : Int)).toNat = 3 from rfl] at hx213_0); replace p213 := eq_true p213; replace q213 := eq_true q213; have p214 : 0 ≤ (2 : Int) := (by omega); have q214 : 2 < (t185.length : Int) := of_decide_eq_true (by first | (with_reducible assumption) | assumption); obtain ⟨ad214, e214, hx214_0⟩ := Kd.at_int (Kd.R_reads' HO187.out).2.2 2 p214 q214; obtain rfl : ad212 = ad214 := (by injection e214); (try simp only [show (2 : Int).toNat = 2 from rfl, Nat.reduceMul, Nat.reduceEqDiff, Go.Addr.add, ↓reduceIte] at hx214_0); have qi214 : (2 < t185.length) = True := eq_true (by omega); (try rw [show ((2 : Int)).toNat = 2 from rfl] at hx214_0); replace p214 := eq_true p214; replace q214 := eq_true q214; have p215 : 0 ≤ (1 : Int) := (by omega); have q215 : 1 < (t185.length : Int) := of_decide_eq_true (by first | (with_reducible assumption) | assumption); obtain ⟨ad215, e215, hx215_0⟩ := Kd.at_int (Kd.R_reads' HO187.out).2.2 1 p215 q215; obtain rfl : ad212 = ad215 := (by injection e215); (try simp only [show (1 : Int).toNat = 1 from rfl, Nat.reduceMul, Nat.reduceEqDiff, Go.Addr.add, ↓reduceIte] at hx215_0); have qi215 : (1 < t185.length) = True := eq_true (by omega); (try rw [show ((1 : Int)).toNat = 1 from rfl] at hx215_0); replace p215 := eq_true p215; replace q215 := eq_true q215; have p216 : 0 ≤ (0 : Int) := (by omega); have q216 : 0 < (t185.length : Int) := of_decide_eq_true (by first | (with_reducible assumption) | assumption); obtain ⟨ad216, e216, hx216_0⟩ := Kd.at_int (Kd.R_reads' HO187.out).2.2 0 p216 q216; obtain rfl : ad212 = ad216 := (by injection e216); have qi216 : (0 < t185.length) = True := eq_true (by omega); (try rw [show ((0 : Int)).toNat = 0 from rfl] at hx216_0); (try rw [Addr.add_zero'] at hx216_0); replace p216 := eq_true p216; replace q216 := eq_true q216))
                          go_ret
                          exact ⟨by first | rfl | (simp [errW_none, errW_some] <;> rfl) | (simp [*, errW_none, errW_some] <;> rfl), by repeat (first | (with_reducible first | exact HI0.out | apply IsS87.alloc | apply IsS87.drewN | apply IsS87.drew | apply IsS87.set_1 | apply IsS87.set_2 | apply IsS87.set_3) | exact HI0.out), by repeat (first | (with_reducible first | exact HB.out | apply below_alloc | apply pw_below_drewN | apply below_drew1 | refine below_set ?_ (IsS87.ge HI0.out)) | exact HB.out), by repeat (first | (with_reducible first | exact HK.out | apply KeepBut.set_ | apply keep_drewN | apply keep_drew | apply keep_alloc) | exact HK.out)⟩
                        · rw [if_neg c48] at H
                          exact absurd H (by simp)
                      · rw [if_neg c47] at H
                        exact absurd H (by simp)
                    · rw [if_neg c46] at H
                      exact absurd H (by simp)
                  · rw [if_neg c45] at H
                    exact absurd H (by simp)
                · rw [if_neg c44] at H
                  exact absurd H (by simp)
              · rw [if_neg c43] at H
                have c43b0 : ((t185.length : Int) == 5) = false := beq_eq_false_iff_ne.mpr c43
                have c43b1 : ((t185.length : Int) != 5) = true := bne_iff_ne.mpr c43
                by_cases c51 : (t185.length : Int) = 4
                · rw [if_pos c51] at H
                  have c51b0 : ((t185.length : Int) == 4) = true := beq_iff_eq.mpr c51
                  have c51b1 : ((t185.length : Int) != 4) = false := bne_eq_false_iff_eq.mpr c51
                  clear c51
                  by_cases c52 : 3 < (t185.length : Int)
                  · rw [if_pos c52] at H
                    have c52b0 : decide (3 < (t185.length : Int)) = true := decide_eq_true c52
                    have c52b1 : decide (3 < t185.length) = true := decide_eq_true (by omega)
                    clear c52
                    by_cases c53 : 2 < (t185.length : Int)
                    · rw [if_pos c53] at H
                      have c53b0 : decide (2 < (t185.length : Int)) = true := decide_eq_true c53
                      have c53b1 : decide (2 < t185.length) = true := decide_eq_true (by omega)
                      clear c53
                      by_cases c54 : 1 < (t185.length : Int)
                      · rw [if_pos c54] at H
                        have c54b0 : decide (1 < (t185.length : Int)) = true := decide_eq_true c54
                        have c54b1 : decide (1 < t185.length) = true := decide_eq_true (by omega)
                        clear c54
                        by_cases c55 : 0 < (t185.length : Int)
                        · rw [if_pos c55] at H
                          have c55b0 : decide (0 < (t185.length : Int)) = true := decide_eq_true c55
                          have c55b1 : decide (0 < t185.length) = true := decide_eq_true (by omega)
                          clear c55
                          simp only [Option.some.injEq, Prod.mk.injEq] at H
                          obtain ⟨rfl, rfl, rfl, rfl⟩ := H
                          go_wp2_with (first | ((with_reducible refine gate_callee (f := 41) rfl ?_); refine goesL_ (some 19) rfl rfl Tryd.func41 (by kernel_rfl) rfl #[.pointer (some ⟨g, 0, none⟩), .int .i64 a1] rfl (by (try simp only [List.map_toArray, List.map_cons, List.map_nil]); first | done | rfl | (simp only [List.length_drop, List.length_take]; rfl)) ?_; (with_reducible refine (num_Reader_Take.calls g s0_0 s0_1 s0_2 s0_3 a1 t185 t188 t189 t190 w0 _ ?side1 ?side2 A12.out).mono ?_); (case side1 => repeat (first | (with_reducible first | exact HI0.out | apply IsS87.alloc | apply IsS87.drewN | apply IsS87.drew | apply IsS87.set_1 | apply IsS87.set_2 | apply IsS87.set_3) | exact HI0.out)); (case side2 => repeat (first | (with_reducible first | exact HB.out | apply below_alloc | apply pw_below_drewN | apply below_drew1 | refine below_set ?_ (IsS87.ge HI0.out)) | exact HB.out)); rintro e w56 ⟨v186, rfl, ho0, hi, hb, hk⟩; refine ⟨_, rfl, ?_⟩; have n0_ := Aside0.mk (Kd.R_lower ho0 (keep_size (w := w) (g := g) (row := none) (by repeat (first | (with_reducible first | exact HK.out | apply KeepBut.set_ | apply keep_drewN | apply keep_drew | apply keep_alloc) | exact HK.out)))); have n1_ := Aside0.mk (KeepBut.trans (by repeat (first | (with_reducible first | exact HK.out | apply KeepBut.set_ | apply keep_drewN | apply keep_drew | apply keep_alloc) | exact HK.out)) hk (.inl rfl)); have n2_ := Aside0.mk (hb); have n3_ := Aside0.mk (hi); clear HK; clear HB; clear HI0; have HO187 := n0_; have HK := n1_; have HB := n2_; have HI0 := n3_; clear n0_ n1_ n2_ n3_; (try clear hb); (try clear hb2); (try clear hk); (try clear hi); (try clear ho0); obtain ⟨Ao57, co57, eo57⟩ := Kd.R_slice HO187.out; subst eo57; have p217 : 0 ≤ (3 : Int) := (by omega); have q217 : 3 < (t185.length : Int) := of_decide_eq_true (by first | (with_reducible assumption) | assumption); obtain ⟨ad217, e217, hx217_0⟩ := Kd.at_int (Kd.R_reads' HO187.out).2.2 3 p217 q217; cases e217; (try simp only [show (3 : Int).toNat = 3 from rfl, Nat.reduceMul, Nat.reduceEqDiff, Go.Addr.add, ↓reduceIte] at hx217_0); have qi217 : (3 < t185.length) = True := eq_true (by omega); (try rw [show ((3 : Int)).toNat = 3 from rfl] at hx217_0); replace p217 := eq_true p217; replace q217 := eq_true q217; have p218 : 0 ≤ (2 : Int) := (by omega); have q218 : 2 < (t185.length : Int) := of_decide_eq_true (by first | (with_reducible assumption) | assumption); obtain ⟨ad218, e218, hx218_0⟩ := Kd.at_int (Kd.R_reads' HO187.out).2.2 2 p218 q218; obtain rfl : ad217 = ad218 := (by injection e218); (try simp only [show (2 : Int).toNat = 2 from rfl, Nat.reduceMul, Nat.reduceEqDiff, Go.Addr.add, ↓reduceIte] at hx218_0); have qi218 : (2 < t185.length) = True := eq_true (by omega); (try rw [show ((2 : Int)).toNat = 2 from rfl] at hx218_0); replace p218 := eq_true p218; replace q218 := eq_true q218; have p219 : 0 ≤ (1 : Int) := (by omega); have q219 : 1 < (t185.length : Int) := of_decide_eq_true (by first | (with_reducible assumption) | assumption); obtain ⟨ad219, e219, hx219_0⟩ := Kd.at_int (Kd.R_reads' HO187.out).2.2 1 p219 q219; obtain rfl : ad217 = ad219 := (by injection e219); (try simp only [show (1 : Int).toNat = 1 from rfl, Nat.reduceMul, Nat.reduceEqDiff, Go.Addr.add, ↓reduceIte] at hx219_0); have qi219 : (1 < t185.length) = True := eq_true (by omega); (try rw [show ((1 : Int)).toNat = 1 from rfl] at hx219_0); replace p219 := eq_true p219; replace q219 := eq_true q219; have p220 : 0 ≤ (0 : Int) := (by omega); have q220 : 0 < (t185.length : Int) := of_decide_eq_true (by first | (with_reducible assumption) | assumption); obtain ⟨ad220, e220, hx220_0⟩ := Kd.at_int (Kd.R_reads' HO187.out).2.2 0 p220 q220; obtain rfl : ad217 = ad220 := (by injection e220); have qi220 : (0 < t185.length) = True := eq_true (by omega); (try rw [show ((0 : Int)).toNat = 0 from rfl] at hx220_0); (try rw [Addr.add_zero'] at hx220_0); replace p220 := eq_true p220; replace q220 := eq_true q220))
                          go_ret
                          exact ⟨by first | rfl | (simp [errW_none, errW_some] <;> rfl) | (simp [*, errW_none, errW_some] <;> rfl), by repeat (first | (with_reducible first | exact HI0.out | apply IsS87.alloc | apply IsS87.drewN | apply IsS87.drew | apply IsS87.set_1 | apply IsS87.set_2 | apply IsS87.set_3) | exact HI0.out), by repeat (first | (with_reducible first | exact HB.out | apply below_alloc | apply pw_below_drewN | apply below_drew1 | refine below_set ?_ (IsS87.ge HI0.out)) | exact HB.out), by repeat (first | (with_reducible first | exact HK.out | apply KeepBut.set_ | apply keep_drewN | apply keep_drew | apply keep_alloc) | exact HK.out)⟩
                        · rw [if_neg c55] at H
                          exact absurd H (by simp)
                      · rw [if_neg c54] at H
                        exact absurd H (by simp)
                    · rw [if_neg c53] at H
                      exact absurd H (by simp)
                  · rw [if_neg c52] at H
                    exact absurd H (by simp)
                · rw [if_neg c51] at H
                  have c51b0 : ((t185.length : Int) == 4) = false := beq_eq_false_iff_ne.mpr c51
                  have c51b1 : ((t185.length : Int) != 4) = true := bne_iff_ne.mpr c51
                  by_cases c58 : (t185.length : Int) = 3
                  · rw [if_pos c58] at H
                    have c58b0 : ((t185.length : Int) == 3) = true := beq_iff_eq.mpr c58
                    have c58b1 : ((t185.length : Int) != 3) = false := bne_eq_false_iff_eq.mpr c58
                    clear c58
                    by_cases c59 : 2 < (t185.length : Int)
                    · rw [if_pos c59] at H
                      have c59b0 : decide (2 < (t185.length : Int)) = true := decide_eq_true c59
                      have c59b1 : decide (2 < t185.length) = true := decide_eq_true (by omega)
                      clear c59
                      by_cases c60 : 1 < (t185.length : Int)
                      · rw [if_pos c60] at H
                        have c60b0 : decide (1 < (t185.length : Int)) = true := decide_eq_true c60
                        have c60b1 : decide (1 < t185.length) = true := decide_eq_true (by omega)
                        clear c60
                        by_cases c61 : 0 < (t185.length : Int)
                        · rw [if_pos c61] at H
                          have c61b0 : decide (0 < (t185.length : Int)) = true := decide_eq_true c61
                          have c61b1 : decide (0 < t185.length) = true := decide_eq_true (by omega)
                          clear c61
                          simp only [Option.some.injEq, Prod.mk.injEq] at H
                          obtain ⟨rfl, rfl, rfl, rfl⟩ := H
                          go_wp2_with (first | ((with_reducible refine gate_callee (f := 41) rfl ?_); refine goesL_ (some 19) rfl rfl Tryd.func41 (by kernel_rfl) rfl #[.pointer (some ⟨g, 0, none⟩), .int .i64 a1] rfl (by (try simp only [List.map_toArray, List.map_cons, List.map_nil]); first | done | rfl | (simp only [List.length_drop, List.length_take]; rfl)) ?_; (with_reducible refine (num_Reader_Take.calls g s0_0 s0_1 s0_2 s0_3 a1 t185 t188 t189 t190 w0 _ ?side1 ?side2 A12.out).mono ?_); (case side1 => repeat (first | (with_reducible first | exact HI0.out | apply IsS87.alloc | apply IsS87.drewN | apply IsS87.drew | apply IsS87.set_1 | apply IsS87.set_2 | apply IsS87.set_3) | exact HI0.out)); (case side2 => repeat (first | (with_reducible first | exact HB.out | apply below_alloc | apply pw_below_drewN | apply below_drew1 | refine below_set ?_ (IsS87.ge HI0.out)) | exact HB.out)); rintro e w62 ⟨v186, rfl, ho0, hi, hb, hk⟩; refine ⟨_, rfl, ?_⟩; have n0_ := Aside0.mk (Kd.R_lower ho0 (keep_size (w := w) (g := g) (row := none) (by repeat (first | (with_reducible first | exact HK.out | apply KeepBut.set_ | apply keep_drewN | apply keep_drew | apply keep_alloc) | exact HK.out)))); have n1_ := Aside0.mk (KeepBut.trans (by repeat (first | (with_reducible first | exact HK.out | apply KeepBut.set_ | apply keep_drewN | apply keep_drew | apply keep_alloc) | exact HK.out)) hk (.inl rfl)); have n2_ := Aside0.mk (hb); have n3_ := Aside0.mk (hi); clear HK; clear HB; clear HI0; have HO187 := n0_; have HK := n1_; have HB := n2_; have HI0 := n3_; clear n0_ n1_ n2_ n3_; (try clear hb); (try clear hb2); (try clear hk); (try clear hi); (try clear ho0); obtain ⟨Ao63, co63, eo63⟩ := Kd.R_slice HO187.out; subst eo63; have p221 : 0 ≤ (2 : Int) := (by omega); have q221 : 2 < (t185.length : Int) := of_decide_eq_true (by first | (with_reducible assumption) | assumption); obtain ⟨ad221, e221, hx221_0⟩ := Kd.at_int (Kd.R_reads' HO187.out).2.2 2 p221 q221; cases e221; (try simp only [show (2 : Int).toNat = 2 from rfl, Nat.reduceMul, Nat.reduceEqDiff, Go.Addr.add, ↓reduceIte] at hx221_0); have qi221 : (2 < t185.length) = True := eq_true (by omega); (try rw [show ((2 : Int)).toNat = 2 from rfl] at hx221_0); replace p221 := eq_true p221; replace q221 := eq_true q221; have p222 : 0 ≤ (1 : Int) := (by omega); have q222 : 1 < (t185.length : Int) := of_decide_eq_true (by first | (with_reducible assumption) | assumption); obtain ⟨ad222, e222, hx222_0⟩ := Kd.at_int (Kd.R_reads' HO187.out).2.2 1 p222 q222; obtain rfl : ad221 = ad222 := (by injection e222); (try simp only [show (1 : Int).toNat = 1 from rfl, Nat.reduceMul, Nat.reduceEqDiff, Go.Addr.add, ↓reduceIte] at hx222_0); have qi222 : (1 < t185.length) = True := eq_true (by omega); (try rw [show ((1 : Int)).toNat = 1 from rfl] at hx222_0); replace p222 := eq_true p222; replace q222 := eq_true q222; have p223 : 0 ≤ (0 : Int) := (by omega); have q223 : 0 < (t185.length : Int) := of_decide_eq_true (by first | (with_reducible assumption) | assumption); obtain ⟨ad223, e223, hx223_0⟩ := Kd.at_int (Kd.R_reads' HO187.out).2.2 0 p223 q223; obtain rfl : ad221 = ad223 := (by injection e223); have qi223 : (0 < t185.length) = True := eq_true (by omega); (try rw [show ((0 : Int)).toNat = 0 from rfl] at hx223_0); (try rw [Addr.add_zero'] at hx223_0); replace p223 := eq_true p223; replace q223 := eq_true q223))
                          go_ret
                          exact ⟨by first | rfl | (simp [errW_none, errW_some] <;> rfl) | (simp [*, errW_none, errW_some] <;> rfl), by repeat (first | (with_reducible first | exact HI0.out | apply IsS87.alloc | apply IsS87.drewN | apply IsS87.drew | apply IsS87.set_1 | apply IsS87.set_2 | apply IsS87.set_3) | exact HI0.out), by repeat (first | (with_reducible first | exact HB.out | apply below_alloc | apply pw_below_drewN | apply below_drew1 | refine below_set ?_ (IsS87.ge HI0.out)) | exact HB.out), by repeat (first | (with_reducible first | exact HK.out | apply KeepBut.set_ | apply keep_drewN | apply keep_drew | apply keep_alloc) | exact HK.out)⟩
                        · rw [if_neg c61] at H
                          exact absurd H (by simp)
                      · rw [if_neg c60] at H
                        exact absurd H (by simp)
                    · rw [if_neg c59] at H
                      exact absurd H (by simp)
                  · rw [if_neg c58] at H
                    have c58b0 : ((t185.length : Int) == 3) = false := beq_eq_false_iff_ne.mpr c58
                    have c58b1 : ((t185.length : Int) != 3) = true := bne_iff_ne.mpr c58
                    by_cases c64 : (t185.length : Int) = 2
                    · rw [if_pos c64] at H
                      have c64b0 : ((t185.length : Int) == 2) = true := beq_iff_eq.mpr c64
                      have c64b1 : ((t185.length : Int) != 2) = false := bne_eq_false_iff_eq.mpr c64
                      clear c64
                      by_cases c65 : 1 < (t185.length : Int)
                      · rw [if_pos c65] at H
                        have c65b0 : decide (1 < (t185.length : Int)) = true := decide_eq_true c65
                        have c65b1 : decide (1 < t185.length) = true := decide_eq_true (by omega)
                        clear c65
                        by_cases c66 : 0 < (t185.length : Int)
                        · rw [if_pos c66] at H
                          have c66b0 : decide (0 < (t185.length : Int)) = true := decide_eq_true c66
                          have c66b1 : decide (0 < t185.length) = true := decide_eq_true (by omega)
                          clear c66
                          simp only [Option.some.injEq, Prod.mk.injEq] at H
                          obtain ⟨rfl, rfl, rfl, rfl⟩ := H
                          go_wp2_with (first | ((with_reducible refine gate_callee (f := 41) rfl ?_); refine goesL_ (some 19) rfl rfl Tryd.func41 (by kernel_rfl) rfl #[.pointer (some ⟨g, 0, none⟩), .int .i64 a1] rfl (by (try simp only [List.map_toArray, List.map_cons, List.map_nil]); first | done | rfl | (simp only [List.length_drop, List.length_take]; rfl)) ?_; (with_reducible refine (num_Reader_Take.calls g s0_0 s0_1 s0_2 s0_3 a1 t185 t188 t189 t190 w0 _ ?side1 ?side2 A12.out).mono ?_); (case side1 => repeat (first | (with_reducible first | exact HI0.out | apply IsS87.alloc | apply IsS87.drewN | apply IsS87.drew | apply IsS87.set_1 | apply IsS87.set_2 | apply IsS87.set_3) | exact HI0.out)); (case side2 => repeat (first | (with_reducible first | exact HB.out | apply below_alloc | apply pw_below_drewN | apply below_drew1 | refine below_set ?_ (IsS87.ge HI0.out)) | exact HB.out)); rintro e w67 ⟨v186, rfl, ho0, hi, hb, hk⟩; refine ⟨_, rfl, ?_⟩; have n0_ := Aside0.mk (Kd.R_lower ho0 (keep_size (w := w) (g := g) (row := none) (by repeat (first | (with_reducible first | exact HK.out | apply KeepBut.set_ | apply keep_drewN | apply keep_drew | apply keep_alloc) | exact HK.out)))); have n1_ := Aside0.mk (KeepBut.trans (by repeat (first | (with_reducible first | exact HK.out | apply KeepBut.set_ | apply keep_drewN | apply keep_drew | apply keep_alloc) | exact HK.out)) hk (.inl rfl)); have n2_ := Aside0.mk (hb); have n3_ := Aside0.mk (hi); clear HK; clear HB; clear HI0; have HO187 := n0_; have HK := n1_; have HB := n2_; have HI0 := n3_; clear n0_ n1_ n2_ n3_; (try clear hb); (try clear hb2); (try clear hk); (try clear hi); (try clear ho0); obtain ⟨Ao68, co68, eo68⟩ := Kd.R_slice HO187.out; subst eo68; have p224 : 0 ≤ (1 : Int) := (by omega); have q224 : 1 < (t185.length : Int) := of_decide_eq_true (by first | (with_reducible assumption) | assumption); obtain ⟨ad224, e224, hx224_0⟩ := Kd.at_int (Kd.R_reads' HO187.out).2.2 1 p224 q224; cases e224; (try simp only [show (1 : Int).toNat = 1 from rfl, Nat.reduceMul, Nat.reduceEqDiff, Go.Addr.add, ↓reduceIte] at hx224_0); have qi224 : (1 < t185.length) = True := eq_true (by omega); (try rw [show ((1 : Int)).toNat = 1 from rfl] at hx224_0); replace p224 := eq_true p224; replace q224 := eq_true q224; have p225 : 0 ≤ (0 : Int) := (by omega); have q225 : 0 < (t185.length : Int) := of_decide_eq_true (by first | (with_reducible assumption) | assumption); obtain ⟨ad225, e225, hx225_0⟩ := Kd.at_int (Kd.R_reads' HO187.out).2.2 0 p225 q225; obtain rfl : ad224 = ad225 := (by injection e225); have qi225 : (0 < t185.length) = True := eq_true (by omega); (try rw [show ((0 : Int)).toNat = 0 from rfl] at hx225_0); (try rw [Addr.add_zero'] at hx225_0); replace p225 := eq_true p225; replace q225 := eq_true q225))
                          go_ret
                          exact ⟨by first | rfl | (simp [errW_none, errW_some] <;> rfl) | (simp [*, errW_none, errW_some] <;> rfl), by repeat (first | (with_reducible first | exact HI0.out | apply IsS87.alloc | apply IsS87.drewN | apply IsS87.drew | apply IsS87.set_1 | apply IsS87.set_2 | apply IsS87.set_3) | exact HI0.out), by repeat (first | (with_reducible first | exact HB.out | apply below_alloc | apply pw_below_drewN | apply below_drew1 | refine below_set ?_ (IsS87.ge HI0.out)) | exact HB.out), by repeat (first | (with_reducible first | exact HK.out | apply KeepBut.set_ | apply keep_drewN | apply keep_drew | apply keep_alloc) | exact HK.out)⟩
                        · rw [if_neg c66] at H
                          exact absurd H (by simp)
                      · rw [if_neg c65] at H
                        exact absurd H (by simp)
                    · rw [if_neg c64] at H
                      have c64b0 : ((t185.length : Int) == 2) = false := beq_eq_false_iff_ne.mpr c64
                      have c64b1 : ((t185.length : Int) != 2) = true := bne_iff_ne.mpr c64
                      by_cases c69 : (t185.length : Int) = 1
                      · rw [if_pos c69] at H
                        have c69b0 : ((t185.length : Int) == 1) = true := beq_iff_eq.mpr c69
                        have c69b1 : ((t185.length : Int) != 1) = false := bne_eq_false_iff_eq.mpr c69
                        clear c69
                        by_cases c70 : 0 < (t185.length : Int)
                        · rw [if_pos c70] at H
                          have c70b0 : decide (0 < (t185.length : Int)) = true := decide_eq_true c70
                          have c70b1 : decide (0 < t185.length) = true := decide_eq_true (by omega)
                          clear c70
                          simp only [Option.some.injEq, Prod.mk.injEq] at H
                          obtain ⟨rfl, rfl, rfl, rfl⟩ := H
                          go_wp2_with (first | ((with_reducible refine gate_callee (f := 41) rfl ?_); refine goesL_ (some 19) rfl rfl Tryd.func41 (by kernel_rfl) rfl #[.pointer (some ⟨g, 0, none⟩), .int .i64 a1] rfl (by (try simp only [List.map_toArray, List.map_cons, List.map_nil]); first | done | rfl | (simp only [List.length_drop, List.length_take]; rfl)) ?_; (with_reducible refine (num_Reader_Take.calls g s0_0 s0_1 s0_2 s0_3 a1 t185 t188 t189 t190 w0 _ ?side1 ?side2 A12.out).mono ?_); (case side1 => repeat (first | (with_reducible first | exact HI0.out | apply IsS87.alloc | apply IsS87.drewN | apply IsS87.drew | apply IsS87.set_1 | apply IsS87.set_2 | apply IsS87.set_3) | exact HI0.out)); (case side2 => repeat (first | (with_reducible first | exact HB.out | apply below_alloc | apply pw_below_drewN | apply below_drew1 | refine below_set ?_ (IsS87.ge HI0.out)) | exact HB.out)); rintro e w71 ⟨v186, rfl, ho0, hi, hb, hk⟩; refine ⟨_, rfl, ?_⟩; have n0_ := Aside0.mk (Kd.R_lower ho0 (keep_size (w := w) (g := g) (row := none) (by repeat (first | (with_reducible first | exact HK.out | apply KeepBut.set_ | apply keep_drewN | apply keep_drew | apply keep_alloc) | exact HK.out)))); have n1_ := Aside0.mk (KeepBut.trans (by repeat (first | (with_reducible first | exact HK.out | apply KeepBut.set_ | apply keep_drewN | apply keep_drew | apply keep_alloc) | exact HK.out)) hk (.inl rfl)); have n2_ := Aside0.mk (hb); have n3_ := Aside0.mk (hi); clear HK; clear HB; clear HI0; have HO187 := n0_; have HK := n1_; have HB := n2_; have HI0 := n3_; clear n0_ n1_ n2_ n3_; (try clear hb); (try clear hb2); (try clear hk); (try clear hi); (try clear ho0); obtain ⟨Ao72, co72, eo72⟩ := Kd.R_slice HO187.out; subst eo72; have p226 : 0 ≤ (0 : Int) := (by omega); have q226 : 0 < (t185.length : Int) := of_decide_eq_true (by first | (with_reducible assumption) | assumption); obtain ⟨ad226, e226, hx226_0⟩ := Kd.at_int (Kd.R_reads' HO187.out).2.2 0 p226 q226; cases e226; have qi226 : (0 < t185.length) = True := eq_true (by omega); (try rw [show ((0 : Int)).toNat = 0 from rfl] at hx226_0); (try rw [Addr.add_zero'] at hx226_0); replace p226 := eq_true p226; replace q226 := eq_true q226))
                          go_ret
                          exact ⟨by first | rfl | (simp [errW_none, errW_some] <;> rfl) | (simp [*, errW_none, errW_some] <;> rfl), by repeat (first | (with_reducible first | exact HI0.out | apply IsS87.alloc | apply IsS87.drewN | apply IsS87.drew | apply IsS87.set_1 | apply IsS87.set_2 | apply IsS87.set_3) | exact HI0.out), by repeat (first | (with_reducible first | exact HB.out | apply below_alloc | apply pw_below_drewN | apply below_drew1 | refine below_set ?_ (IsS87.ge HI0.out)) | exact HB.out), by repeat (first | (with_reducible first | exact HK.out | apply KeepBut.set_ | apply keep_drewN | apply keep_drew | apply keep_alloc) | exact HK.out)⟩
                        · rw [if_neg c70] at H
                          exact absurd H (by simp)
                      · rw [if_neg c69] at H
                        have c69b0 : ((t185.length : Int) == 1) = false := beq_eq_false_iff_ne.mpr c69
                        have c69b1 : ((t185.length : Int) != 1) = true := bne_iff_ne.mpr c69
                        simp only [Option.some.injEq, Prod.mk.injEq] at H
                        obtain ⟨rfl, rfl, rfl, rfl⟩ := H
                        go_wp2_with (first | ((with_reducible refine gate_callee (f := 41) rfl ?_); refine goesL_ (some 19) rfl rfl Tryd.func41 (by kernel_rfl) rfl #[.pointer (some ⟨g, 0, none⟩), .int .i64 a1] rfl (by (try simp only [List.map_toArray, List.map_cons, List.map_nil]); first | done | rfl | (simp only [List.length_drop, List.length_take]; rfl)) ?_; (with_reducible refine (num_Reader_Take.calls g s0_0 s0_1 s0_2 s0_3 a1 t185 t188 t189 t190 w0 _ ?side1 ?side2 A12.out).mono ?_); (case side1 => repeat (first | (with_reducible first | exact HI0.out | apply IsS87.alloc | apply IsS87.drewN | apply IsS87.drew | apply IsS87.set_1 | apply IsS87.set_2 | apply IsS87.set_3) | exact HI0.out)); (case side2 => repeat (first | (with_reducible first | exact HB.out | apply below_alloc | apply pw_below_drewN | apply below_drew1 | refine below_set ?_ (IsS87.ge HI0.out)) | exact HB.out)); rintro e w73 ⟨v186, rfl, ho0, hi, hb, hk⟩; refine ⟨_, rfl, ?_⟩; have n0_ := Aside0.mk (Kd.R_lower ho0 (keep_size (w := w) (g := g) (row := none) (by repeat (first | (with_reducible first | exact HK.out | apply KeepBut.set_ | apply keep_drewN | apply keep_drew | apply keep_alloc) | exact HK.out)))); have n1_ := Aside0.mk (KeepBut.trans (by repeat (first | (with_reducible first | exact HK.out | apply KeepBut.set_ | apply keep_drewN | apply keep_drew | apply keep_alloc) | exact HK.out)) hk (.inl rfl)); have n2_ := Aside0.mk (hb); have n3_ := Aside0.mk (hi); clear HK; clear HB; clear HI0; have HO187 := n0_; have HK := n1_; have HB := n2_; have HI0 := n3_; clear n0_ n1_ n2_ n3_; (try clear hb); (try clear hb2); (try clear hk); (try clear hi); (try clear ho0); obtain ⟨Ao74, co74, eo74⟩ := Kd.R_slice HO187.out; subst eo74))
                        go_ret
                        exact ⟨by first | rfl | (simp [errW_none, errW_some] <;> rfl) | (simp [*, errW_none, errW_some] <;> rfl), by repeat (first | (with_reducible first | exact HI0.out | apply IsS87.alloc | apply IsS87.drewN | apply IsS87.drew | apply IsS87.set_1 | apply IsS87.set_2 | apply IsS87.set_3) | exact HI0.out), by repeat (first | (with_reducible first | exact HB.out | apply below_alloc | apply pw_below_drewN | apply below_drew1 | refine below_set ?_ (IsS87.ge HI0.out)) | exact HB.out), by repeat (first | (with_reducible first | exact HK.out | apply KeepBut.set_ | apply keep_drewN | apply keep_drew | apply keep_alloc) | exact HK.out)⟩

end Go.Proofs.YtieddojplhmhgaaDoor.PDeltaGets
