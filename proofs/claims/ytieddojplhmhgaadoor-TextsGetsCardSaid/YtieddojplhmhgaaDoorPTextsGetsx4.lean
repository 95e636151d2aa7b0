/- WRITTEN BY A PROGRAM of this session (wip/tool: a turned copy of the printer), out of the translation: Lean functions with the answers of the Go functions, and the proofs that the Go code comes to them. -/
import Derived.Test.YtieddojplhmhgaaDoorPTextsGetsx0
import Derived.Test.YtieddojplhmhgaaDoorPTextsGetsx3
namespace Go.Proofs.YtieddojplhmhgaaDoor.PTextsGets
open Go.RowKit Go.Proofs.YtieddojplhmhgaaDoorW.PrintWords Go.Proofs.YtieddojplhmhgaaDoorW.PrintLast Go.Proofs.YtieddojplhmhgaaDoorW.PrintMore
attribute [local go_sem] max2_int min2_int max_two min_two max_three min_three max_four min_four   -- for this text's walks alone
set_option linter.unusedVariables false
set_option linter.unusedSimpArgs false

/-! ### num_Reader_Fix: function 37 -/
def num_Reader_Fix.j0 : Nat → Int → Bool → List Int → Int → Int → Int → Option (Int × Int × Int × Int)
  | 0, _, _, _, _, _, _ => none
  | k + 1, x1, x12, x1000, x1001, x1002, x1003 => if x12 = true then ((num_Reader_ok.f x1000 x1001 x1002 x1003).bind fun bt171 => (if bt171.1 = true then ((num_Reader_Fail.f x1000 bt171.2.1 bt171.2.2.1 bt171.2.2.2 1).bind fun bt175 => (some (0, bt175.1, bt175.2.1, bt175.2.2))) else (some (0, bt171.2.1, bt171.2.2.1, bt171.2.2.2)))) else ((num_Reader_Take.f x1000 x1001 x1002 x1003 x1).bind fun bt178 => (if (bt178.1.length : Int) = 8 then (if 7 < (bt178.1.length : Int) then (if 6 < (bt178.1.length : Int) then (if 5 < (bt178.1.length : Int) then (if 4 < (bt178.1.length : Int) then (if 3 < (bt178.1.length : Int) then (if 2 < (bt178.1.length : Int) then (if 1 < (bt178.1.length : Int) then (if 0 < (bt178.1.length : Int) then (some (Go.bits .or .u64 (Go.bits .or .u64 (Go.bits .or .u64 (Go.bits .or .u64 (Go.bits .or .u64 (Go.bits .or .u64 (Go.bits .or .u64 (Go.bits .or .u64 0 (IntKind.u64.wrap ((IntKind.u64.wrap (rd bt178.1 7)) * 72057594037927936))) (IntKind.u64.wrap ((IntKind.u64.wrap (rd bt178.1 6)) * 281474976710656))) (IntKind.u64.wrap ((IntKind.u64.wrap (rd bt178.1 5)) * 1099511627776))) (IntKind.u64.wrap ((IntKind.u64.wrap (rd bt178.1 4)) * 4294967296))) (IntKind.u64.wrap ((IntKind.u64.wrap (rd bt178.1 3)) * 16777216))) (IntKind.u64.wrap ((IntKind.u64.wrap (rd bt178.1 2)) * 65536))) (IntKind.u64.wrap ((IntKind.u64.wrap (rd bt178.1 1)) * 256))) (IntKind.u64.wrap (rd bt178.1 0)), bt178.2.1, bt178.2.2.1, bt178.2.2.2)) else (none)) else (none)) else (none)) else (none)) else (none)) else (none)) else (none)) else (none)) else (if (bt178.1.length : Int) = 7 then (if 6 < (bt178.1.length : Int) then (if 5 < (bt178.1.length : Int) then (if 4 < (bt178.1.length : Int) then (if 3 < (bt178.1.length : Int) then (if 2 < (bt178.1.length : Int) then (if 1 < (bt178.1.length : Int) then (if 0 < (bt178.1.length : Int) then (some (Go.bits .or .u64 (Go.bits .or .u64 (Go.bits .or .u64 (Go.bits .or .u64 (Go.bits .or .u64 (Go.bits .or .u64 (Go.bits .or .u64 0 (IntKind.u64.wrap ((IntKind.u64.wrap (rd bt178.1 6)) * 281474976710656))) (IntKind.u64.wrap ((IntKind.u64.wrap (rd bt178.1 5)) * 1099511627776))) (IntKind.u64.wrap ((IntKind.u64.wrap (rd bt178.1 4)) * 4294967296))) (IntKind.u64.wrap ((IntKind.u64.wrap (rd bt178.1 3)) * 16777216))) (IntKind.u64.wrap ((IntKind.u64.wrap (rd bt178.1 2)) * 65536))) (IntKind.u64.wrap ((IntKind.u64.wrap (rd bt178.1 1)) * 256))) (IntKind.u64.wrap (rd bt178.1 0)), bt178.2.1, bt178.2.2.1, bt178.2.2.2)) else (none)) else (none)) else (none)) else (none)) else (none)) else (none)) else (none)) else (if (bt178.1.length : Int) = 6 then (if 5 < (bt178.1.length : Int) then (if 4 < (bt178.1.length : Int) then (if 3 < (bt178.1.length : Int) then (if 2 < (bt178.1.length : Int) then (if 1 < (bt178.1.length : Int) then (if 0 < (bt178.1.length : Int) then (some (Go.bits .or .u64 (Go.bits .or .u64 (Go.bits .or .u64 (Go.bits .or .u64 (Go.bits .or .u64 (Go.bits .or .u64 0 (IntKind.u64.wrap ((IntKind.u64.wrap (rd bt178.1 5)) * 1099511627776))) (IntKind.u64.wrap ((IntKind.u64.wrap (rd bt178.1 4)) * 4294967296))) (IntKind.u64.wrap ((IntKind.u64.wrap (rd bt178.1 3)) * 16777216))) (IntKind.u64.wrap ((IntKind.u64.wrap (rd bt178.1 2)) * 65536))) (IntKind.u64.wrap ((IntKind.u64.wrap (rd bt178.1 1)) * 256))) (IntKind.u64.wrap (rd bt178.1 0)), bt178.2.1, bt178.2.2.1, bt178.2.2.2)) else (none)) else (none)) else (none)) else (none)) else (none)) else (none)) else (if (bt178.1.length : Int) = 5 then (if 4 < (bt178.1.length : Int) then (if 3 < (bt178.1.length : Int) then (if 2 < (bt178.1.length : Int) then (if 1 < (bt178.1.length : Int) then (if 0 < (bt178.1.length : Int) then (some (Go.bits .or .u64 (Go.bits .or .u64 (Go.bits .or .u64 (Go.bits .or .u64 (Go.bits .or .u64 0 (IntKind.u64.wrap ((IntKind.u64.wrap (rd bt178.1 4)) * 4294967296))) (IntKind.u64.wrap ((IntKind.u64.wrap (rd bt178.1 3)) * 16777216))) (IntKind.u64.wrap ((IntKind.u64.wrap (rd bt178.1 2)) * 65536))) (IntKind.u64.wrap ((IntKind.u64.wrap (rd bt178.1 1)) * 256))) (IntKind.u64.wrap (rd bt178.1 0)), bt178.2.1, bt178.2.2.1, bt178.2.2.2)) else (none)) else (none)) else (none)) else (none)) else (none)) else (if (bt178.1.length : Int) = 4 then (if 3 < (bt178.1.length : Int) then (if 2 < (bt178.1.length : Int) then (if 1 < (bt178.1.length : Int) then (if 0 < (bt178.1.length : Int) then (some (Go.bits .or .u64 (Go.bits .or .u64 (Go.bits .or .u64 (Go.bits .or .u64 0 (IntKind.u64.wrap ((IntKind.u64.wrap (rd bt178.1 3)) * 16777216))) (IntKind.u64.wrap ((IntKind.u64.wrap (rd bt178.1 2)) * 65536))) (IntKind.u64.wrap ((IntKind.u64.wrap (rd bt178.1 1)) * 256))) (IntKind.u64.wrap (rd bt178.1 0)), bt178.2.1, bt178.2.2.1, bt178.2.2.2)) else (none)) else (none)) else (none)) else (none)) else (if (bt178.1.length : Int) = 3 then (if 2 < (bt178.1.length : Int) then (if 1 < (bt178.1.length : Int) then (if 0 < (bt178.1.length : Int) then (some (Go.bits .or .u64 (Go.bits .or .u64 (Go.bits .or .u64 0 (IntKind.u64.wrap ((IntKind.u64.wrap (rd bt178.1 2)) * 65536))) (IntKind.u64.wrap ((IntKind.u64.wrap (rd bt178.1 1)) * 256))) (IntKind.u64.wrap (rd bt178.1 0)), bt178.2.1, bt178.2.2.1, bt178.2.2.2)) else (none)) else (none)) else (none)) else (if (bt178.1.length : Int) = 2 then (if 1 < (bt178.1.length : Int) then (if 0 < (bt178.1.length : Int) then (some (Go.bits .or .u64 (Go.bits .or .u64 0 (IntKind.u64.wrap ((IntKind.u64.wrap (rd bt178.1 1)) * 256))) (IntKind.u64.wrap (rd bt178.1 0)), bt178.2.1, bt178.2.2.1, bt178.2.2.2)) else (none)) else (none)) else (if (bt178.1.length : Int) = 1 then (if 0 < (bt178.1.length : Int) then (some (Go.bits .or .u64 0 (IntKind.u64.wrap (rd bt178.1 0)), bt178.2.1, bt178.2.2.1, bt178.2.2.2)) else (none)) else (some (0, bt178.2.1, bt178.2.2.1, bt178.2.2.2)))))))))))
def num_Reader_Fix.f (k : Nat) (s0_0 : List Int) (s0_1 : Int) (s0_2 : Int) (s0_3 : Int) (a1 : Int) : Option (Int × Int × Int × Int) := if a1 < 0 then (num_Reader_Fix.j0 k a1 true s0_0 s0_1 s0_2 s0_3) else (num_Reader_Fix.j0 k a1 (decide (a1 > 8)) s0_0 s0_1 s0_2 s0_3)
set_option maxHeartbeats 8000000 in
set_option maxRecDepth 100000 in
theorem num_Reader_Fix.calls (k : Nat) (g : Nat) (s0_0 : List Int) (s0_1 : Int) (s0_2 : Int) (s0_3 : Int) (a1 : Int) (r1 : Int) (r2 : Int) (r3 : Int) (r4 : Int) (w0 w : World) (hI : IsS87 w0 w g s0_0 s0_1 s0_2 s0_3) (hB : Below w0.heap.size w0 w) (h : num_Reader_Fix.f k s0_0 s0_1 s0_2 s0_3 a1 = some (r1, r2, r3, r4)) :
    Calls Tryd.prog 37 #[.pointer (some ⟨g, 0, none⟩), .int .i64 a1] w fun e w' => e = .returned (.int .u64 r1) ∧ IsS87 w0 w' g s0_0 r2 r3 r4 ∧ Below w0.heap.size w0 w' ∧ KeepBut w w' g none := by
  have HI0 := Aside0.mk hI
  have HK := Aside0.mk (KeepBut.refl w g none)
  have HL := Aside0.mk hB.size
  clear hI
  have HW0 := Aside0.mk hB.size
  have HB := Aside0.mk hB
  clear hB
  have H : (if a1 < 0 then (num_Reader_Fix.j0 k a1 true s0_0 s0_1 s0_2 s0_3) else (num_Reader_Fix.j0 k a1 (decide (a1 > 8)) s0_0 s0_1 s0_2 s0_3)) = some (r1, r2, r3, r4) := h
  clear h
  have HC3 := Aside0.mk H
  clear H
  go_enter Tryd.func37, Tryd.ntmps37
  go_upto_region 1 with (fail)
  go_cut [12] (fun v12 wc => ∃ (kq : Nat) (x12_2 : Bool), v12 = .bool x12_2 ∧ Aside0 (num_Reader_Fix.j0 kq a1 x12_2 s0_0 s0_1 s0_2 s0_3 = some (r1, r2, r3, r4)) ∧ Aside0 (kq ≤ k) ∧ Aside0 (IsS87 w0 wc g s0_0 s0_1 s0_2 s0_3) ∧ Aside0 (KeepBut w wc g none) ∧ Aside0 (Below w0.heap.size w0 wc))
  case first =>
    have H := HC3.out
    clear HC3
    by_cases c4 : a1 < 0
    · rw [if_pos c4] at H
      have c4b0 : decide (a1 < 0) = true := decide_eq_true c4
      clear c4
      (first | rw [c4b0] | (simp only [i64_w, i32_w]; rw [c4b0]) | skip)
      have H' := Aside0.mk H
      clear H
      go_wp2
      go_meet
      case rel => exact ⟨_, (true), (by first | rfl | (simp; done) | (simp [*]; done)), H', ⟨by first | omega | exact Nat.le_refl _⟩, ⟨by repeat (first | (with_reducible first | exact HI0.out | apply IsS87.alloc | apply IsS87.drewN | apply IsS87.drew | apply IsS87.set_1 | apply IsS87.set_2 | apply IsS87.set_3) | exact HI0.out)⟩, ⟨by repeat (first | (with_reducible first | exact HK.out | apply KeepBut.set_ | apply keep_drewN | apply keep_drew | apply keep_alloc) | exact HK.out)⟩, ⟨by repeat (first | (with_reducible first | exact HB.out | apply below_alloc | apply pw_below_drewN | apply below_drew1 | refine below_set ?_ (IsS87.ge HI0.out)) | exact HB.out)⟩⟩
    · rw [if_neg c4] at H
      have c4b0 : decide (a1 < 0) = false := decide_eq_false c4
      clear c4
      (first | rw [c4b0] | (simp only [i64_w, i32_w]; rw [c4b0]) | skip)
      have H' := Aside0.mk H
      clear H
      go_wp2
      go_meet
      case rel => exact ⟨_, (decide (a1 > 8)), (by first | rfl | (simp; done) | (simp [*]; done)), H', ⟨by first | omega | exact Nat.le_refl _⟩, ⟨by repeat (first | (with_reducible first | exact HI0.out | apply IsS87.alloc | apply IsS87.drewN | apply IsS87.drew | apply IsS87.set_1 | apply IsS87.set_2 | apply IsS87.set_3) | exact HI0.out)⟩, ⟨by repeat (first | (with_reducible first | exact HK.out | apply KeepBut.set_ | apply keep_drewN | apply keep_drew | apply keep_alloc) | exact HK.out)⟩, ⟨by repeat (first | (with_reducible first | exact HB.out | apply below_alloc | apply pw_below_drewN | apply below_drew1 | refine below_set ?_ (IsS87.ge HI0.out)) | exact HB.out)⟩⟩
  case rest =>
    clear HC3
    try clear p2
    try clear c3
    try clear c4
    try clear c4b0
    obtain ⟨kq, x12_2, rfl, HA, HJ2, HI0, HK, HB⟩ := hcut
    cases kq with
    | zero => exact absurd HA.out (by simp [num_Reader_Fix.j0])
    | succ kj2 =>
      have H := HA.out
      clear HA
      simp only [num_Reader_Fix.j0] at H
      by_cases c5 : x12_2 = true
      · subst c5
        have H1 : ((num_Reader_ok.f s0_0 s0_1 s0_2 s0_3).bind fun bt171 => (if bt171.1 = true then ((num_Reader_Fail.f s0_0 bt171.2.1 bt171.2.2.1 bt171.2.2.2 1).bind fun bt175 => (some (0, bt175.1, bt175.2.1, bt175.2.2))) else (some (0, bt171.2.1, bt171.2.2.1, bt171.2.2.2)))) = some (r1, r2, r3, r4) := by rw [if_pos rfl] at H; exact H
        clear H
        have H := H1
        clear H1
        replace H := Option.bind_eq_some_iff.mp H
        obtain ⟨⟨t171, t172, t173, t174⟩, A60, H⟩ := H
        replace H : (if t171 = true then ((num_Reader_Fail.f s0_0 t172 t173 t174 1).bind fun bt175 => (some (0, bt175.1, bt175.2.1, bt175.2.2))) else (some (0, t172, t173, t174))) = some (r1, r2, r3, r4) := H
        have A6 := Aside0.mk A60
        clear A60
        by_cases c7 : t171 = true
        · subst c7
          have H1 : ((num_Reader_Fail.f s0_0 t172 t173 t174 1).bind fun bt175 => (some (0, bt175.1, bt175.2.1, bt175.2.2))) = some (r1, r2, r3, r4) := by rw [if_pos rfl] at H; exact H
          clear H
          have H := H1
          clear H1
          replace H := Option.bind_eq_some_iff.mp H
          obtain ⟨⟨t175, t176, t177⟩, A80, H⟩ := H
          replace H : (some (0, t175, t176, t177)) = some (r1, r2, r3, r4) := H
          have A8 := Aside0.mk A80
          clear A80
          simp only [Option.some.injEq, Prod.mk.injEq] at H
          obtain ⟨rfl, rfl, rfl, rfl⟩ := H
          go_wp2_with (first | ((with_reducible refine gate_callee (f := 71) rfl ?_); refine goesL_ (some 14) rfl rfl Tryd.func71 (by kernel_rfl) rfl #[.pointer (some ⟨g, 0, none⟩)] rfl (by (try simp only [List.map_toArray, List.map_cons, List.map_nil]); first | done | rfl | (simp only [List.length_drop, List.length_take]; rfl)) ?_; (with_reducible refine (num_Reader_ok.calls g s0_0 s0_1 s0_2 s0_3 true t172 t173 t174 w0 _ ?side1 ?side2 A6.out).mono ?_); (case side1 => repeat (first | (with_reducible first | exact HI0.out | apply IsS87.alloc | apply IsS87.drewN | apply IsS87.drew | apply IsS87.set_1 | apply IsS87.set_2 | apply IsS87.set_3) | exact HI0.out)); (case side2 => repeat (first | (with_reducible first | exact HB.out | apply below_alloc | apply pw_below_drewN | apply below_drew1 | refine below_set ?_ (IsS87.ge HI0.out)) | exact HB.out)); rintro e w9 ⟨rfl, hi, hb, hk⟩; refine ⟨_, rfl, ?_⟩; have n0_ := Aside0.mk (KeepBut.trans (by repeat (first | (with_reducible first | exact HK.out | apply KeepBut.set_ | apply keep_drewN | apply keep_drew | apply keep_alloc) | exact HK.out)) hk (.inl rfl)); have n1_ := Aside0.mk (hb); have n2_ := Aside0.mk (hi); clear HK; clear HB; clear HI0; have HK := n0_; have HB := n1_; have HI0 := n2_; clear n0_ n1_ n2_; (try clear hb); (try clear hb2); (try clear hk); (try clear hi)) | ((with_reducible refine gate_callee (f := 38) rfl ?_); refine goesL_ (some 16) rfl rfl Tryd.func38 (by kernel_rfl) rfl #[.pointer (some ⟨g, 0, none⟩), .int .i64 1] rfl (by (try simp only [List.map_toArray, List.map_cons, List.map_nil]); first | done | rfl | (simp only [List.length_drop, List.length_take]; rfl)) ?_; (with_reducible refine (num_Reader_Fail.calls g s0_0 t172 t173 t174 1 t175 t176 t177 w0 _ ?side1 ?side2 A8.out).mono ?_); (case side1 => repeat (first | (with_reducible first | exact HI0.out | apply IsS87.alloc | apply IsS87.drewN | apply IsS87.drew | apply IsS87.set_1 | apply IsS87.set_2 | apply IsS87.set_3) | exact HI0.out)); (case side2 => repeat (first | (with_reducible first | exact HB.out | apply below_alloc | apply pw_below_drewN | apply below_drew1 | refine below_set ?_ (IsS87.ge HI0.out)) | exact HB.out)); rintro e w10 ⟨rfl, hi, hb, hk⟩; refine ⟨_, rfl, ?_⟩; have n0_ := Aside0.mk (KeepBut.trans (by repeat (first | (with_reducible first | exact HK.out | apply KeepBut.set_ | apply keep_drewN | apply keep_drew | apply keep_alloc) | exact HK.out)) hk (.inl rfl)); have n1_ := Aside0.mk (hb); have n2_ := Aside0.mk (hi); clear HK; clear HB; clear HI0; have HK := n0_; have HB := n1_; have HI0 := n2_; clear n0_ n1_ n2_; (try clear hb); (try clear hb2); (try clear hk); (try clear hi)))
          go_ret
          exact ⟨by first | rfl | (simp [errW_none, errW_some] <;> rfl) | (simp [*, errW_none, errW_some] <;> rfl), by repeat (first | (with_reducible first | exact HI0.out | apply IsS87.alloc | apply IsS87.drewN | apply IsS87.drew | apply IsS87.set_1 | apply IsS87.set_2 | apply IsS87.set_3) | exact HI0.out), by repeat (first | (with_reducible first | exact HB.out | apply below_alloc | apply pw_below_drewN | apply below_drew1 | refine below_set ?_ (IsS87.ge HI0.out)) | exact HB.out), by repeat (first | (with_reducible first | exact HK.out | apply KeepBut.set_ | apply keep_drewN | apply keep_drew | apply keep_alloc) | exact HK.out)⟩
        · replace c7 := Bool.eq_false_iff.mpr c7
          subst c7
          have H1 : (some (0, t172, t173, t174)) = some (r1, r2, r3, r4) := by rw [if_neg (show ¬ (false = true) by decide)] at H; exact H
          clear H
          have H := H1
          clear H1
          simp only [Option.some.injEq, Prod.mk.injEq] at H
          obtain ⟨rfl, rfl, rfl, rfl⟩ := H
          go_wp2_with (first | ((with_reducible refine gate_callee (f := 71) rfl ?_); refine goesL_ (some 14) rfl rfl Tryd.func71 (by kernel_rfl) rfl #[.pointer (some ⟨g, 0, none⟩)] rfl (by (try simp only [List.map_toArray, List.map_cons, List.map_nil]); first | done | rfl | (simp only [List.length_drop, List.length_take]; rfl)) ?_; (with_reducible refine (num_Reader_ok.calls g s0_0 s0_1 s0_2 s0_3 false t172 t173 t174 w0 _ ?side1 ?side2 A6.out).mono ?_); (case side1 => repeat (first | (with_reducible first | exact HI0.out | apply IsS87.alloc | apply IsS87.drewN | apply IsS87.drew | apply IsS87.set_1 | apply IsS87.set_2 | apply IsS87.set_3) | exact HI0.out)); (case side2 => repeat (first | (with_reducible first | exact HB.out | apply below_alloc | apply pw_below_drewN | apply below_drew1 | refine below_set ?_ (IsS87.ge HI0.out)) | exact HB.out)); rintro e w11 ⟨rfl, hi, hb, hk⟩; refine ⟨_, rfl, ?_⟩; have n0_ := Aside0.mk (KeepBut.trans (by repeat (first | (with_reducible first | exact HK.out | apply KeepBut.set_ | apply keep_drewN | apply keep_drew | apply keep_alloc) | exact HK.out)) hk (.inl rfl)); have n1_ := Aside0.mk (hb); have n2_ := Aside0.mk (hi); clear HK; clear HB; clear HI0; have HK := n0_; have HB := n1_; have HI0 := n2_; clear n0_ n1_ n2_; (try clear hb); (try clear hb2); (try clear hk); (try clear hi)))
          go_ret
          exact ⟨by first | rfl | (simp [errW_none, errW_some] <;> rfl) | (simp [*, errW_none, errW_some] <;> rfl), by repeat (first | (with_reducible first | exact HI0.out | apply IsS87.alloc | apply IsS87.drewN | apply IsS87.drew | apply IsS87.set_1 | apply IsS87.set_2 | apply IsS87.set_3) | exact HI0.out), by repeat (first | (with_reducible first | exact HB.out | apply below_alloc | apply pw_below_drewN | apply below_drew1 | refine below_set ?_ (IsS87.ge HI0.out)) | exact HB.out), by repeat (first | (with_reducible first | exact HK.out | apply KeepBut.set_ | apply keep_drewN | apply keep_drew | apply keep_alloc) | exact HK.out)⟩
      · replace c5 := Bool.eq_false_iff.mpr c5
        subst c5
        have H1 : ((num_Reader_Take.f s0_0 s0_1 s0_2 s0_3 a1).bind fun bt178 => (if (bt178.1.length : Int) = 8 then (if 7 < (bt178.1.length : Int) then (if 6 < (bt178.1.length : Int) then (if 5 < (bt178.1.length : Int) then (if 4 < (bt178.1.length : Int) then (if 3 < (bt178.1.length : Int) then (if 2 < (bt178.1.length : Int) then (if 1 < (bt178.1.length : Int) then (if 0 < (bt178.1.length : Int) then (some (Go.bits .or .u64 (Go.bits .or .u64 (Go.bits .or .u64 (Go.bits .or .u64 (Go.bits .or .u64 (Go.bits .or .u64 (Go.bits .or .u64 (Go.bits .or .u64 0 (IntKind.u64.wrap ((IntKind.u64.wrap (rd bt178.1 7)) * 72057594037927936))) (IntKind.u64.wrap ((IntKind.u64.wrap (rd bt178.1 6)) * 281474976710656))) (IntKind.u64.wrap ((IntKind.u64.wrap (rd bt178.1 5)) * 1099511627776))) (IntKind.u64.wrap ((IntKind.u64.wrap (rd bt178.1 4)) * 4294967296))) (IntKind.u64.wrap ((IntKind.u64.wrap (rd bt178.1 3)) * 16777216))) (IntKind.u64.wrap ((IntKind.u64.wrap (rd bt178.1 2)) * 65536))) (IntKind.u64.wrap ((IntKind.u64.wrap (rd bt178.1 1)) * 256))) (IntKind.u64.wrap (rd bt178.1 0)), bt178.2.1, bt178.2.2.1, bt178.2.2.2)) else (none)) else (none)) else (none)) else (none)) else (none)) else (none)) else (none)) else (none)) else (if (bt178.1.length : Int) = 7 then (if 6 < (bt178.1.length : Int) then (if 5 < (bt178.1.length : Int) then (if 4 < (bt178.1.length : Int) then (if 3 < (bt178.1.length : Int) then (if 2 < (bt178.1.length : Int) then (if 1 < (bt178.1.length : Int) then (if 0 < (bt178.1.length : Int) then (some (Go.bits .or .u64 (Go.bits .or .u64 (Go.bits .or .u64 (Go.bits .or .u64 (Go.bits .or .u64 (Go.bits .or .u64 (Go.bits .or .u64 0 (IntKind.u64.wrap ((IntKind.u64.wrap (rd bt178.1 6)) * 281474976710656))) (IntKind.u64.wrap ((IntKind.u64.wrap (rd bt178.1 5)) * 1099511627776))) (IntKind.u64.wrap ((IntKind.u64.wrap (rd bt178.1 4)) * 4294967296))) (IntKind.u64.wrap ((IntKind.u64.wrap (rd bt178.1 3)) * 16777216))) (IntKind.u64.wrap ((IntKind.u64.wrap (rd bt178.1 2)) * 65536))) (IntKind.u64.wrap ((IntKind.u64.wrap (rd bt178.1 1)) * 256))) (IntKind.u64.wrap (rd bt178.1 0)), bt178.2.1, bt178.2.2.1, bt178.2.2.2)) else (none)) else (none)) else (none)) else (none)) else (none)) else (none)) else (none)) else (if (bt178.1.length : Int) = 6 then (if 5 < (bt178.1.length : Int) then (if 4 < (bt178.1.length : Int) then (if 3 < (bt178.1.length : Int) then (if 2 < (bt178.1.length : Int) then (if 1 < (bt178.1.length : Int) then (if 0 < (bt178.1.length : Int) then (some (Go.bits .or .u64 (Go.bits .or .u64 (Go.bits .or .u64 (Go.bits .or .u64 (Go.bits .or .u64 (Go.bits .or .u64 0 (IntKind.u64.wrap ((IntKind.u64.wrap (rd bt178.1 5)) * 1099511627776))) (IntKind.u64.wrap ((IntKind.u64.wrap (rd bt178.1 4)) * 4294967296))) (IntKind.u64.wrap ((IntKind.u64.wrap (rd bt178.1 3)) * 16777216))) (IntKind.u64.wrap ((IntKind.u64.wrap (rd bt178.1 2)) * 65536))) (IntKind.u64.wrap ((IntKind.u64.wrap (rd bt178.1 1)) * 256))) (IntKind.u64.wrap (rd bt178.1 0)), bt178.2.1, bt178.2.2.1, bt178.2.2.2)) else (none)) else (none)) else (none)) else (none)) else (none)) else (none)) else (if (bt178.1.length : Int) = 5 then (if 4 < (bt178.1.length : Int) then (if 3 < (bt178.1.length : Int) then (if 2 < (bt178.1.length : Int) then (if 1 < (bt178.1.length : Int) then (if 0 < (bt178.1.length : Int) then (some (Go.bits .or .u64 (Go.bits .or .u64 (Go.bits .or .u64 (Go.bits .or .u64 (Go.bits .or .u64 0 (IntKind.u64.wrap ((IntKind.u64.wrap (rd bt178.1 4)) * 4294967296))) (IntKind.u64.wrap ((IntKind.u64.wrap (rd bt178.1 3)) * 16777216))) (IntKind.u64.wrap ((IntKind.u64.wrap (rd bt178.1 2)) * 65536))) (IntKind.u64.wrap ((IntKind.u64.wrap (rd bt178.1 1)) * 256))) (IntKind.u64.wrap (rd bt178.1 0)), bt178.2.1, bt178.2.2.1, bt178.2.2.2)) else (none)) else (none)) else (none)) else (none)) else (none)) else (if (bt178.1.length : Int) = 4 then (if 3 < (bt178.1.length : Int) then (if 2 < (bt178.1.length : Int) then (if 1 < (bt178.1.length : Int) then (if 0 < (bt178.1.length : Int) then (some (Go.bits .or .u64 (Go.bits .or .u64 (Go.bits .or .u64 (Go.bits .or .u64 0 (IntKind.u64.wrap ((IntKind.u64.wrap (rd bt178.1 3)) * 16777216))) (IntKind.u64.wrap ((IntKind.u64.wrap (rd bt178.1 2)) * 65536))) (IntKind.u64.wrap ((IntKind.u64.wrap (rd bt178.1 1)) * 256))) (IntKind.u64.wrap (rd bt178.1 0)), bt178.2.1, bt178.2.2.1, bt178.2.2.2)) else (none)) else (none)) else (none)) else (none)) else (if (bt178.1.length : Int) = 3 then (if 2 < (bt178.1.length : Int) then (if 1 < (bt178.1.length : Int) then (if 0 < (bt178.1.length : Int) then (some (Go.bits .or .u64 (Go.bits .or .u64 (Go.bits .or .u64 0 (IntKind.u64.wrap ((IntKind.u64.wrap (rd bt178.1 2)) * 65536))) (IntKind.u64.wrap ((IntKind.u64.wrap (rd bt178.1 1)) * 256))) (IntKind.u64.wrap (rd bt178.1 0)), bt178.2.1, bt178.2.2.1, bt178.2.2.2)) else (none)) else (none)) else (none)) else (if (bt178.1.length : Int) = 2 then (if 1 < (bt178.1.length : Int) then (if 0 < (bt178.1.length : Int) then (some (Go.bits .or .u64 (Go.bits .or .u64 0 (IntKind.u64.wrap ((IntKind.u64.wrap (rd bt178.1 1)) * 256))) (IntKind.u64.wrap (rd bt178.1 0)), bt178.2.1, bt178.2.2.1, bt178.2.2.2)) else (none)) else (none)) else (if (bt178.1.length : Int) = 1 then (if 0 < (bt178.1.length : Int) then (some (Go.bits .or .u64 0 (IntKind.u64.wrap (rd bt178.1 0)), bt178.2.1, bt178.2.2.1, bt178.2.2.2)) else (none)) else (some (0, bt178.2.1, bt178.2.2.1, bt178.2.2.2))))))))))) = some (r1, r2, r3, r4) := by rw [if_neg (show ¬ (false = true) by decide)] at H; exact H
        clear H
        have H := H1
        clear H1
        replace H := Option.bind_eq_some_iff.mp H
        obtain ⟨⟨t178, t181, t182, t183⟩, A120, H⟩ := H
        replace H : (if (t178.length : Int) = 8 then (if 7 < (t178.length : Int) then (if 6 < (t178.length : Int) then (if 5 < (t178.length : Int) then (if 4 < (t178.length : Int) then (if 3 < (t178.length : Int) then (if 2 < (t178.length : Int) then (if 1 < (t178.length : Int) then (if 0 < (t178.length : Int) then (some (Go.bits .or .u64 (Go.bits .or .u64 (Go.bits .or .u64 (Go.bits .or .u64 (Go.bits .or .u64 (Go.bits .or .u64 (Go.bits .or .u64 (Go.bits .or .u64 0 (IntKind.u64.wrap ((IntKind.u64.wrap (rd t178 7)) * 72057594037927936))) (IntKind.u64.wrap ((IntKind.u64.wrap (rd t178 6)) * 281474976710656))) (IntKind.u64.wrap ((IntKind.u64.wrap (rd t178 5)) * 1099511627776))) (IntKind.u64.wrap ((IntKind.u64.wrap (rd t178 4)) * 4294967296))) (IntKind.u64.wrap ((IntKind.u64.wrap (rd t178 3)) * 16777216))) (IntKind.u64.wrap ((IntKind.u64.wrap (rd t178 2)) * 65536))) (IntKind.u64.wrap ((IntKind.u64.wrap (rd t178 1)) * 256))) (IntKind.u64.wrap (rd t178 0)), t181, t182, t183)) else (none)) else (none)) else (none)) else (none)) else (none)) else (none)) else (none)) else (none)) else (if (t178.length : Int) = 7 then (if 6 < (t178.length : Int) then (if 5 < (t178.length : Int) then (if 4 < (t178.length : Int) then (if 3 < (t178.length : Int) then (if 2 < (t178.length : Int) then (if 1 < (t178.length : Int) then (if 0 < (t178.length : Int) then (some (Go.bits .or .u64 (Go.bits .or .u64 (Go.bits .or .u64 (Go.bits .or .u64 (Go.bits .or .u64 (Go.bits .or .u64 (Go.bits .or .u64 0 (IntKind.u64.wrap ((IntKind.u64.wrap (rd t178 6)) * 281474976710656))) (IntKind.u64.wrap ((IntKind.u64.wrap (rd t178 5)) * 1099511627776))) (IntKind.u64.wrap ((IntKind.u64.wrap (rd t178 4)) * 4294967296))) (IntKind.u64.wrap ((IntKind.u64.wrap (rd t178 3)) * 16777216))) (IntKind.u64.wrap ((IntKind.u64.wrap (rd t178 2)) * 65536))) (IntKind.u64.wrap ((IntKind.u64.wrap (rd t178 1)) * 256))) (IntKind.u64.wrap (rd t178 0)), t181, t182, t183)) else (none)) else (none)) else (none)) else (none)) else (none)) else (none)) else (none)) else (if (t178.length : Int) = 6 then (if 5 < (t178.length : Int) then (if 4 < (t178.length : Int) then (if 3 < (t178.length : Int) then (if 2 < (t178.length : Int) then (if 1 < (t178.length : Int) then (if 0 < (t178.length : Int) then (some (Go.bits .or .u64 (Go.bits .or .u64 (Go.bits .or .u64 (Go.bits .or .u64 (Go.bits .or .u64 (Go.bits .or .u64 0 (IntKind.u64.wrap ((IntKind.u64.wrap (rd t178 5)) * 1099511627776))) (IntKind.u64.wrap ((IntKind.u64.wrap (rd t178 4)) * 4294967296))) (IntKind.u64.wrap ((IntKind.u64.wrap (rd t178 3)) * 16777216))) (IntKind.u64.wrap ((IntKind.u64.wrap (rd t178 2)) * 65536))) (IntKind.u64.wrap ((IntKind.u64.wrap (rd t178 1)) * 256))) (IntKind.u64.wrap (rd t178 0)), t181, t182, t183)) else (none)) else (none)) else (none)) else (none)) else (none)) else (none)) else (if (t178.length : Int) = 5 then (if 4 < (t178.length : Int) then (if 3 < (t178.length : Int) then (if 2 < (t178.length : Int) then (if 1 < (t178.length : Int) then (if 0 < (t178.length : Int) then (some (Go.bits .or .u64 (Go.bits .or .u64 (Go.bits .or .u64 (Go.bits .or .u64 (Go.bits .or .u64 0 (IntKind.u64.wrap ((IntKind.u64.wrap (rd t178 4)) * 4294967296))) (IntKind.u64.wrap ((IntKind.u64.wrap (rd t178 3)) * 16777216))) (IntKind.u64.wrap ((IntKind.u64.wrap (rd t178 2)) * 65536))) (IntKind.u64.wrap ((IntKind.u64.wrap (rd t178 1)) * 256))) (IntKind.u64.wrap (rd t178 0)), t181, t182, t183)) else (none)) else (none)) else (none)) else (none)) else (none)) else (if (t178.length : Int) = 4 then (if 3 < (t178.length : Int) then (if 2 < (t178.length : Int) then (if 1 < (t178.length : Int) then (if 0 < (t178.length : Int) then (some (Go.bits .or .u64 (Go.bits .or .u64 (Go.bits .or .u64 (Go.bits .or .u64 0 (IntKind.u64.wrap ((IntKind.u64.wrap (rd t178 3)) * 16777216))) (IntKind.u64.wrap ((IntKind.u64.wrap (rd t178 2)) * 65536))) (IntKind.u64.wrap ((IntKind.u64.wrap (rd t178 1)) * 256))) (IntKind.u64.wrap (rd t178 0)), t181, t182, t183)) else (none)) else (none)) else (none)) else (none)) else (if (t178.length : Int) = 3 then (if 2 < (t178.length : Int) then (if 1 < (t178.length : Int) then (if 0 < (t178.length : Int) then (some (Go.bits .or .u64 (Go.bits .or .u64 (Go.bits .or .u64 0 (IntKind.u64.wrap ((IntKind.u64.wrap (rd t178 2)) * 65536))) (IntKind.u64.wrap ((IntKind.u64.wrap (rd t178 1)) * 256))) (IntKind.u64.wrap (rd t178 0)), t181, t182, t183)) else (none)) else (none)) else (none)) else (if (t178.length : Int) = 2 then (if 1 < (t178.length : Int) then (if 0 < (t178.length : Int) then (some (Go.bits .or .u64 (Go.bits .or .u64 0 (IntKind.u64.wrap ((IntKind.u64.wrap (rd t178 1)) * 256))) (IntKind.u64.wrap (rd t178 0)), t181, t182, t183)) else (none)) else (none)) else (if (t178.length : Int) = 1 then (if 0 < (t178.length : Int) then (some (Go.bits .or .u64 0 (IntKind.u64.wrap (rd t178 0)), t181, t182, t183)) else (none)) else (some (0, t181, t182, t183)))))))))) = some (r1, r2, r3, r4) := H
        have A12 := Aside0.mk A120
        clear A120
        by_cases c13 : (t178.length : Int) = 8
        · rw [if_pos c13] at H
          have c13b0 : ((t178.length : Int) == 8) = true := beq_iff_eq.mpr c13
          have c13b1 : ((t178.length : Int) != 8) = false := bne_eq_false_iff_eq.mpr c13
          clear c13
          by_cases c14 : 7 < (t178.length : Int)
          · rw [if_pos c14] at H
            have c14b0 : decide (7 < (t178.length : Int)) = true := decide_eq_true c14
            have c14b1 : decide (7 < t178.length) = true := decide_eq_true (by omega)
            clear c14
            by_cases c15 : 6 < (t178.length : Int)
            · rw [if_pos c15] at H
              have c15b0 : decide (6 < (t178.length : Int)) = true := decide_eq_true c15
              have c15b1 : decide (6 < t178.length) = true := decide_eq_true (by omega)
              clear c15
              by_cases c16 : 5 < (t178.length : Int)
              · rw [if_pos c16] at H
                have c16b0 : decide (5 < (t178.length : Int)) = true := decide_eq_true c16
                have c16b1 : decide (5 < t178.length) = true := decide_eq_true (by omega)
                clear c16
                by_cases c17 : 4 < (t178.length : Int)
                · rw [if_pos c17] at H
                  have c17b0 : decide (4 < (t178.length : Int)) = true := decide_eq_true c17
                  have c17b1 : decide (4 < t178.length) = true := decide_eq_true (by omega)
                  clear c17
                  by_cases c18 : 3 < (t178.length : Int)
                  · rw [if_pos c18] at H
                    have c18b0 : decide (3 < (t178.length : Int)) = true := decide_eq_true c18
                    have c18b1 : decide (3 < t178.length) = true := decide_eq_true (by omega)
                    clear c18
                    by_cases c19 : 2 < (t178.length : Int)
                    · rw [if_pos c19] at H
                      have c19b0 : decide (2 < (t178.length : Int)) = true := decide_eq_true c19
                      have c19b1 : decide (2 < t178.length) = true := decide_eq_true (by omega)
                      clear c19
                      by_cases c20 : 1 < (t178.length : Int)
                      · rw [if_pos c20] at H
                        have c20b0 : decide (1 < (t178.length : Int)) = true := decide_eq_true c20
                        have c20b1 : decide (1 < t178.length) = true := decide_eq_true (by omega)
                        clear c20
                        by_cases c21 : 0 < (t178.length : Int)
                        · rw [if_pos c21] at H
                          have c21b0 : decide (0 < (t178.length : Int)) = true := decide_eq_true c21
                          have c21b1 : decide (0 < t178.length) = true := decide_eq_true (by omega)
                          clear c21
                          simp only [Option.some.injEq, Prod.mk.injEq] at H
                          obtain ⟨rfl, rfl, rfl, rfl⟩ := H
                          go_wp2_with (first | ((with_reducible refine gate_callee (f := 41) rfl ?_); refine goesL_ (some 19) rfl rfl Tryd.func41 (by kernel_rfl) rfl #[.pointer (some ⟨g, 0, none⟩), .int .i64 a1] rfl (by (try simp only [List.map_toArray, List.map_cons, List.map_nil]); first | done | rfl | (simp only [List.length_drop, List.length_take]; rfl)) ?_; (with_reducible refine (num_Reader_Take.calls g s0_0 s0_1 s0_2 s0_3 a1 t178 t181 t182 t183 w0 _ ?side1 ?side2 A12.out).mono ?_); (case side1 => repeat (first | (with_reducible first | exact HI0.out | apply IsS87.alloc | apply IsS87.drewN | apply IsS87.drew | apply IsS87.set_1 | apply IsS87.set_2 | apply IsS87.set_3) | exact HI0.out)); (case side2 => repeat (first | (with_reducible first | exact HB.out | apply below_alloc | apply pw_below_drewN | apply below_drew1 | refine below_set ?_ (IsS87.ge HI0.out)) | exact HB.out)); rintro e w22 ⟨v179, rfl, ho0, hi, hb, hk⟩; refine ⟨_, rfl, ?_⟩; have n0_ := Aside0.mk (Kd.R_lower ho0 (keep_size (w := w) (g := g) (row := none) (by repeat (first | (with_reducible first | exact HK.out | apply KeepBut.set_ | apply keep_drewN | apply keep_drew | apply keep_alloc) | exact HK.out)))); have n1_ := Aside0.mk (KeepBut.trans (by repeat (first | (with_reducible first | exact HK.out | apply KeepBut.set_ | apply keep_drewN | apply keep_drew | apply keep_alloc) | exact HK.out)) hk (.inl rfl)); have n2_ := Aside0.mk (hb); have n3_ := Aside0.mk (hi); clear HK; clear HB; clear HI0; have HO180 := n0_; have HK := n1_; have HB := n2_; have HI0 := n3_; clear n0_ n1_ n2_ n3_; (try clear hb); (try clear hb2); (try clear hk); (try clear hi); (try clear ho0); obtain ⟨Ao23, co23, eo23⟩ := Kd.R_slice HO180.out; subst eo23; have p184 : 0 ≤ (7 : Int) := (by omega); have q184 : 7 < (t178.length : Int) := of_decide_eq_true (by first | (with_reducible assumption) | assumption); obtain ⟨ad184, e184, hx184_0⟩ := Kd.at_int (Kd.R_reads' HO180.out).2.2 7 p184 q184; cases e184; (try simp only [show (7 : Int).toNat = 7 from rfl, Nat.reduceMul, Nat.reduceEqDiff, Go.Addr.add, ↓reduceIte] at hx184_0); have qi184 : (7 < t178.length) = True := eq_true (by omega); (try rw [show ((7 : Int)).toNat = 7 from rfl] at hx184_0); replace p184 := eq_true p184; replace q184 := eq_true q184; have p185 : 0 ≤ (6 : Int) := (by omega); have q185 : 6 < (t178.length : Int) := of_decide_eq_true (by first | (with_reducible assumption) | assumption); obtain ⟨ad185, e185, hx185_0⟩ := Kd.at_int (Kd.R_reads' HO180.out).2.2 6 p185 q185; obtain rfl : ad184 = ad185 := (by injection e185); (try simp only [show (6 : Int).toNat = 6 from rfl, Nat.reduceMul, Nat.reduceEqDiff, Go.Addr.add, ↓reduceIte] at hx185_0); have qi185 : (6 < t178.length) = True := eq_true (by omega); (try rw [show ((6 : Int)).toNat = 6 from rfl] at hx185_0); replace p185 := eq_true p185; replace q185 := eq_true q185; have p186 : 0 ≤ (5 : Int) := (by omega); have q186 : 5 < (t178.length : Int) := of_decide_eq_true (by first | (with_reducible assumption) | assumption); obtain ⟨ad186, e186, hx186_0⟩ := Kd.at_int (Kd.R_reads' HO180.out).2.2 5 p186 q186; obtain rfl : ad184 = ad186 := (by injection e186); (try simp only [show (5 : Int).toNat = 5 from rfl, Nat.reduceMul, Nat.reduceEqDiff, Go.Addr.add, ↓reduceIte] at hx186_0); have qi186 : (5 < t178.length) = True := eq_true (by omega); (try rw [show ((5 : Int)).toNat = 5 from rfl] at hx186_0); replace p186 := eq_true p186; replace q186 := eq_true q186; have p187 : 0 ≤ (4 : Int) := (by omega); have q187 : 4 < (t178.length : Int) := of_decide_eq_true (by first | (with_reducible assumption) | assumption); obtain ⟨ad187, e187, hx187_0⟩ := Kd.at_int (Kd.R_reads' HO180.out).2.2 4 p187 q187; obtain rfl : ad184 = ad187 := (by injection e187); (try simp only [show (4 : Int).toNat = 4 from rfl, Nat.reduceMul, Nat.reduceEqDiff, Go.Addr.add, ↓reduceIte] at hx187_0); have qi187 : (4 < t178.length) = True := eq_true (by omega); (try rw [show ((4 : Int)).toNat = 4 from rfl] at hx187_0); replace p187 := eq_true p187; replace q187 := eq_true q187; have p188 : 0 ≤ (3 : Int) := (by omega); have q188 : 3 < (t178.length : Int) := of_decide_eq_true (by first | (with_reducible assumption) | assumption); obtain ⟨ad188, e188, hx188_0⟩ := Kd.at_int (Kd.R_reads' HO180.out).2.2 3 p188 q188; obtain rfl : ad184 = ad188 := (by injection e188); (try simp only [show (3 : Int).toNat = 3 from rfl, Nat.reduceMul, Nat.reduceEqDiff, Go.Addr.add, ↓reduceIte] at hx188_0); have qi188 : (3 < t178.length) = True := eq_true (by omega); (try rw [show ((3 : Int)).toNat = 3 from rfl] at hx188_0); replace p188 := eq_true p188; replace q188 := eq_true q188; have p189 : 0 ≤ (2 : Int) := (by omega); have q189 : 2 < (t178.length : Int) := of_decide_eq_true (by first | (with_reducible assumption) | assumption); obtain ⟨ad189, e189, hx189_0⟩ := Kd.at_int (Kd.R_reads' HO180.out).2.2 2 p189 q189; obtain rfl : ad184 = ad189 := (by injection e189); (try simp only [show (2 : Int).toNat = 2 from rfl, Nat.reduceMul, Nat.reduceEqDiff, Go.Addr.add, ↓reduceIte] at hx189_0); have qi189 : (2 < t178.length) = True := eq_true (by omega); (try rw [show ((2 : Int)).toNat = 2 from rfl] at hx189_0); replace p189 := eq_true p189; replace q189 := eq_true q189; have p190 : 0 ≤ (1 : Int) := (by omega); have q190 : 1 < (t178.length : Int) := of_decide_eq_true (by first | (with_reducible assumption) | assumption); obtain ⟨ad190, e190, hx190_0⟩ := Kd.at_int (Kd.R_reads' HO180.out).2.2 1 p190 q190; obtain rfl : ad184 = ad190 := (by injection e190); (try simp only [show (1 : Int).toNat = 1 from rfl, Nat.reduceMul, Nat.reduceEqDiff, Go.Addr.add, ↓reduceIte] at hx190_0); have qi190 : (1 < t178.length) = True := eq_true (by omega); (try rw [show ((1 : Int)).toNat = 1 from rfl] at hx190_0); replace p190 := eq_true p190; replace q190 := eq_true q190; have p191 : 0 ≤ (0 : Int) := (by omega); have q191 : 0 < (t178.length : Int) := of_decide_eq_true (by first | (with_reducible assumption) | assumption); obtain ⟨ad191, e191, hx191_0⟩ := Kd.at_int (Kd.R_reads' HO180.out).2.2 0 p191 q191; obtain rfl : ad184 = ad191 := (by injection e191); have qi191 : (0 < t178.length) = True := eq_true (by omega); (try rw [show ((0 : Int)).toNat = 0 from rfl] at hx191_0); (try rw [Addr.add_zero'] at hx191_0); replace p191 := eq_true p191; replace q191 := eq_true q191))
                          go_ret
                          exact ⟨by first | rfl | (simp [errW_none, errW_some] <;> rfl) | (simp [*, errW_none, errW_some] <;> rfl), by repeat (first | (with_reducible first | exact HI0.out | apply IsS87.alloc | apply IsS87.drewN | apply IsS87.drew | apply IsS87.set_1 | apply IsS87.set_2 | apply IsS87.set_3) | exact HI0.out), by repeat (first | (with_reducible first | exact HB.out | apply below_alloc | apply pw_below_drewN | apply below_drew1 | refine below_set ?_ (IsS87.ge HI0.out)) | exact HB.out), by repeat (first | (with_reducible first | exact HK.out | apply KeepBut.set_ | apply keep_drewN | apply keep_drew | apply keep_alloc) | exact HK.out)⟩
                        · rw [if_neg c21] at H
                          exact absurd H (by simp)
                      · rw [if_neg c20] at H
                        exact absurd H (by simp)
                    · rw [if_neg c19] at H
                      exact absurd H (by simp)
                  · rw [if_neg c18] at H
                    exact absurd H (by simp)
                · rw [if_neg c17] at H
                  exact absurd H (by simp)
              · rw [if_neg c16] at H
                exact absurd H (by simp)
            · rw [if_neg c15] at H
              exact absurd H (by simp)
          · rw [if_neg c14] at H
            exact absurd H (by simp)
        · rw [if_neg c13] at H
          have c13b0 : ((t178.length : Int) == 8) = false := beq_eq_false_iff_ne.mpr c13
          have c13b1 : ((t178.length : Int) != 8) = true := bne_iff_ne.mpr c13
          by_cases c24 : (t178.length : Int) = 7
          · rw [if_pos c24] at H
            have c24b0 : ((t178.length : Int) == 7) = true := beq_iff_eq.mpr c24
            have c24b1 : ((t178.length : Int) != 7) = false := bne_eq_false_iff_eq.mpr c24
            clear c24
            by_cases c25 : 6 < (t178.length : Int)
            · rw [if_pos c25] at H
              have c25b0 : decide (6 < (t178.length : Int)) = true := decide_eq_true c25
              have c25b1 : decide (6 < t178.length) = true := decide_eq_true (by omega)
              clear c25
              by_cases c26 : 5 < (t178.length : Int)
              · rw [if_pos c26] at H
                have c26b0 : decide (5 < (t178.length : Int)) = true := decide_eq_true c26
                have c26b1 : decide (5 < t178.length) = true := decide_eq_true (by omega)
                clear c26
                by_cases c27 : 4 < (t178.length : Int)
                · rw [if_pos c27] at H
                  have c27b0 : decide (4 < (t178.length : Int)) = true := decide_eq_true c27
                  have c27b1 : decide (4 < t178.length) = true := decide_eq_true (by omega)
                  clear c27
                  by_cases c28 : 3 < (t178.length : Int)
                  · rw [if_pos c28] at H
                    have c28b0 : decide (3 < (t178.length : Int)) = true := decide_eq_true c28
                    have c28b1 : decide (3 < t178.length) = true := decide_eq_true (by omega)
                    clear c28
                    by_cases c29 : 2 < (t178.length : Int)
                    · rw [if_pos c29] at H
                      have c29b0 : decide (2 < (t178.length : Int)) = true := decide_eq_true c29
                      have c29b1 : decide (2 < t178.length) = true := decide_eq_true (by omega)
                      clear c29
                      by_cases c30 : 1 < (t178.length : Int)
                      · rw [if_pos c30] at H
                        have c30b0 : decide (1 < (t178.length : Int)) = true := decide_eq_true c30
                        have c30b1 : decide (1 < t178.length) = true := decide_eq_true (by omega)
                        clear c30
                        by_cases c31 : 0 < (t178.length : Int)
                        · rw [if_pos c31] at H
                          have c31b0 : decide (0 < (t178.length : Int)) = true := decide_eq_true c31
                          have c31b1 : decide (0 < t178.length) = true := decide_eq_true (by omega)
                          clear c31
                          simp only [Option.some.injEq, Prod.mk.injEq] at H
                          obtain ⟨rfl, rfl, rfl, rfl⟩ := H
                          go_wp2_with (first | ((with_reducible refine gate_callee (f := 41) rfl ?_); refine goesL_ (some 19) rfl rfl Tryd.func41 (by kernel_rfl) rfl #[.pointer (some ⟨g, 0, none⟩), .int .i64 a1] rfl (by (try simp only [List.map_toArray, List.map_cons, List.map_nil]); first | done | rfl | (simp only [List.length_drop, List.length_take]; rfl)) ?_; (with_reducible refine (num_Reader_Take.calls g s0_0 s0_1 s0_2 s0_3 a1 t178 t181 t182 t183 w0 _ ?side1 ?side2 A12.out).mono ?_); (case side1 => repeat (first | (with_reducible first | exact HI0.out | apply IsS87.alloc | apply IsS87.drewN | apply IsS87.drew | apply IsS87.set_1 | apply IsS87.set_2 | apply IsS87.set_3) | exact HI0.out)); (case side2 => repeat (first | (with_reducible first | exact HB.out | apply below_alloc | apply pw_below_drewN | apply below_drew1 | refine below_set ?_ (IsS87.ge HI0.out)) | exact HB.out)); rintro e w32 ⟨v179, rfl, ho0, hi, hb, hk⟩; refine ⟨_, rfl, ?_⟩; have n0_ := Aside0.mk (Kd.R_lower ho0 (keep_size (w := w) (g := g) (row := none) (by repeat (first | (with_reducible first | exact HK.out | apply KeepBut.set_ | apply keep_drewN | apply keep_drew | apply keep_alloc) | exact HK.out)))); have n1_ := Aside0.mk (KeepBut.trans (by repeat (first | (with_reducible first | exact HK.out | apply KeepBut.set_ | apply keep_drewN | apply keep_drew | apply keep_alloc) | exact HK.out)) hk (.inl rfl)); have n2_ := Aside0.mk (hb); have n3_ := Aside0.mk (hi); clear HK; clear HB; clear HI0; have HO180 := n0_; have HK := n1_; have HB := n2_; have HI0 := n3_; clear n0_ n1_ n2_ n3_; (try clear hb); (try clear hb2); (try clear hk); (try clear hi); (try clear ho0); obtain ⟨Ao33, co33, eo33⟩ := Kd.R_slice HO180.out; subst eo33; have p192 : 0 ≤ (6 : Int) := (by omega); have q192 : 6 < (t178.length : Int) := of_decide_eq_true (by first | (with_reducible assumption) | assumption); obtain ⟨ad192, e192, hx192_0⟩ := Kd.at_int (Kd.R_reads' HO180.out).2.2 6 p192 q192; cases e192; (try simp only [show (6 : Int).toNat = 6 from rfl, Nat.reduceMul, Nat.reduceEqDiff, Go.Addr.add, ↓reduceIte] at hx192_0); have qi192 : (6 < t178.length) = True := eq_true (by omega); (try rw [show ((6 : Int)).toNat = 6 from rfl] at hx192_0); replace p192 := eq_true p192; replace q192 := eq_true q192; have p193 : 0 ≤ (5 : Int) := (by omega); have q193 : 5 < (t178.length : Int) := of_decide_eq_true (by first | (with_reducible assumption) | assumption); obtain ⟨ad193, e193, hx193_0⟩ := Kd.at_int (Kd.R_reads' HO180.out).2.2 5 p193 q193; obtain rfl : ad192 = ad193 := (by injection e193); (try simp only [show (5 : Int).toNat = 5 from rfl, Nat.reduceMul, Nat.reduceEqDiff, Go.Addr.add, ↓reduceIte] at hx193_0); have qi193 : (5 < t178.length) = True := eq_true (by omega); (try rw [show ((5 : Int)).toNat = 5 from rfl] at hx193_0); replace p193 := eq_true p193; replace q193 := eq_true q193; have p194 : 0 ≤ (4 : Int) := (by omega); have q194 : 4 < (t178.length : Int) := of_decide_eq_true (by first | (with_reducible assumption) | assumption); obtain ⟨ad194, e194, hx194_0⟩ := Kd.at_int (Kd.R_reads' HO180.out).2.2 4 p194 q194; obtain rfl : ad192 = ad194 := (by injection e194); (try simp only [show (4 : Int).toNat = 4 from rfl, Nat.reduceMul, Nat.reduceEqDiff, Go.Addr.add, ↓reduceIte] at hx194_0); have qi194 : (4 < t178.length) = True := eq_true (by omega); (try rw [show ((4 : Int)).toNat = 4 from rfl] at hx194_0); replace p194 := eq_true p194; replace q194 := eq_true q194; have p195 : 0 ≤ (3 : Int) := (by omega); have q195 : 3 < (t178.length : Int) := of_decide_eq_true (by first | (with_reducible assumption) | assumption); obtain ⟨ad195, e195, hx195_0⟩ := Kd.at_int (Kd.R_reads' HO180.out).2.2 3 p195 q195; obtain rfl : ad192 = ad195 := (by injection e195); (try simp only [show (3 : Int).toNat = 3 from rfl, Nat.reduceMul, Nat.reduceEqDiff, Go.Addr.add, ↓reduceIte] at hx195_0); have qi195 : (3 < t178.length) = True := eq_true (by omega); (try rw [show ((3 : Int)).toNat = 3 from rfl] at hx195_0); replace p195 := eq_true p195; replace q195 := eq_true q195; have p196 : 0 ≤ (2 : Int) := (by omega); have q196 : 2 < (t178.length : Int) := of_decide_eq_true (by first | (with_reducible assumption) | assumption); obtain ⟨ad196, e196, hx196_0⟩ := Kd.at_int (Kd.R_reads' HO180.out).2.2 2 p196 q196; obtain rfl : ad192 = ad196 := (by injection e196); (try simp only [show (2 : Int).toNat = 2 from rfl, Nat.reduceMul, Nat.reduceEqDiff, Go.Addr.add, ↓reduceIte] at hx196_0); have qi196 : (2 < t178.length) = True := eq_true (by omega); (try rw [show ((2 : Int)).toNat = 2 from rfl] at hx196_0); replace p196 := eq_true p196; replace q196 := eq_true q196; have p197 : 0 ≤ (1 : Int) := (by omega); have q197 : 1 < (t178.length : Int) := of_decide_eq_true (by first | (with_reducible assumption) | assumption); obtain ⟨ad197, e197, hx197_0⟩ := Kd.at_int (Kd.R_reads' HO180.out).2.2 1 p197 q197; obtain rfl : ad192 = ad197 := (by injection e197); (try simp only [show (1 : Int).toNat = 1 from rfl, Nat.reduceMul, Nat.reduceEqDiff, Go.Addr.add, ↓reduceIte] at hx197_0); have qi197 : (1 < t178.length) = True := eq_true (by omega); (try rw [show ((1 : Int)).toNat = 1 from rfl] at hx197_0); replace p197 := eq_true p197; replace q197 := eq_true q197; have p198 : 0 ≤ (0 : Int) := (by omega); have q198 : 0 < (t178.length : Int) := of_decide_eq_true (by first | (with_reducible assumption) | assumption); obtain ⟨ad198, e198, hx198_0⟩ := Kd.at_int (Kd.R_reads' HO180.out).2.2 0 p198 q198; obtain rfl : ad192 = ad198 := (by injection e198); have qi198 : (0 < t178.length) = True := eq_true (by omega); (try rw [show ((0 : Int)).toNat = 0 from rfl] at hx198_0); (try rw [Addr.add_zero'] at hx198_0); replace p198 := eq_true p198; replace q198 := eq_true q198))
                          go_ret
                          exact ⟨by first | rfl | (simp [errW_none, errW_some] <;> rfl) | (simp [*, errW_none, errW_some] <;> rfl), by repeat (first | (with_reducible first | exact HI0.out | apply IsS87.alloc | apply IsS87.drewN | apply IsS87.drew | apply IsS87.set_1 | apply IsS87.set_2 | apply IsS87.set_3) | exact HI0.out), by repeat (first | (with_reducible first | exact HB.out | apply below_alloc | apply pw_below_drewN | apply below_drew1 | refine below_set ?_ (IsS87.ge HI0.out)) | exact HB.out), by repeat (first | (with_reducible first | exact HK.out | apply KeepBut.set_ | apply keep_drewN | apply keep_drew | apply keep_alloc) | exact HK.out)⟩
                        · rw [if_neg c31] at H
                          exact absurd H (by simp)
                      · rw [if_neg c30] at H
                        exact absurd H (by simp)
                    · rw [if_neg c29] at H
                      exact absurd H (by simp)
                  · rw [if_neg c28] at H
                    exact absurd H (by simp)
                · rw [if_neg c27] at H
                  exact absurd H (by simp)
              · rw [if_neg c26] at H
                exact absurd H (by simp)
            · rw [if_neg c25] at H
              exact absurd H (by simp)
          · rw [if_neg c24] at H
            have c24b0 : ((t178.length : Int) == 7) = false := beq_eq_false_iff_ne.mpr c24
            have c24b1 : ((t178.length : Int) != 7) = true := bne_iff_ne.mpr c24
            by_cases c34 : (t178.length : Int) = 6
            · rw [if_pos c34] at H
              have c34b0 : ((t178.length : Int) == 6) = true := beq_iff_eq.mpr c34
              have c34b1 : ((t178.length : Int) != 6) = false := bne_eq_false_iff_eq.mpr c34
              clear c34
              by_cases c35 : 5 < (t178.length : Int)
              · rw [if_pos c35] at H
                have c35b0 : decide (5 < (t178.length : Int)) = true := decide_eq_true c35
                have c35b1 : decide (5 < t178.length) = true := decide_eq_true (by omega)
                clear c35
                by_cases c36 : 4 < (t178.length : Int)
                · rw [if_pos c36] at H
                  have c36b0 : decide (4 < (t178.length : Int)) = true := decide_eq_true c36
                  have c36b1 : decide (4 < t178.length) = true := decide_eq_true (by omega)
                  clear c36
                  by_cases c37 : 3 < (t178.length : Int)
                  · rw [if_pos c37] at H
                    have c37b0 : decide (3 < (t178.length : Int)) = true := decide_eq_true c37
                    have c37b1 : decide (3 < t178.length) = true := decide_eq_true (by omega)
                    clear c37
                    by_cases c38 : 2 < (t178.length : Int)
                    · rw [if_pos c38] at H
                      have c38b0 : decide (2 < (t178.length : Int)) = true := decide_eq_true c38
                      have c38b1 : decide (2 < t178.length) = true := decide_eq_true (by omega)
                      clear c38
                      by_cases c39 : 1 < (t178.length : Int)
                      · rw [if_pos c39] at H
                        have c39b0 : decide (1 < (t178.length : Int)) = true := decide_eq_true c39
                        have c39b1 : decide (1 < t178.length) = true := decide_eq_true (by omega)
                        clear c39
                        by_cases c40 : 0 < (t178.length : Int)
                        · rw [if_pos c40] at H
                          have c40b0 : decide (0 < (t178.length : Int)) = true := decide_eq_true c40
                          have c40b1 : decide (0 < t178.length) = true := decide_eq_true (by omega)
                          clear c40
                          simp only [Option.some.injEq, Prod.mk.injEq] at H
                          obtain ⟨rfl, rfl, rfl, rfl⟩ := H
                          go_wp2_with (first | ((with_reducible refine gate_callee (f := 41) rfl ?_); refine goesL_ (some 19) rfl rfl Tryd.func41 (by kernel_rfl) rfl #[.pointer (some ⟨g, 0, none⟩), .int .i64 a1] rfl (by (try simp only [List.map_toArray, List.map_cons, List.map_nil]); first | done | rfl | (simp only [List.length_drop, List.length_take]; rfl)) ?_; (with_reducible refine (num_Reader_Take.calls g s0_0 s0_1 s0_2 s0_3 a1 t178 t181 t182 t183 w0 _ ?side1 ?side2 A12.out).mono ?_); (case side1 => repeat (first | (with_reducible first | exact HI0.out | apply IsS87.alloc | apply IsS87.drewN | apply IsS87.drew | apply IsS87.set_1 | apply IsS87.set_2 | apply IsS87.set_3) | exact HI0.out)); (case side2 => repeat (first | (with_reducible first | exact HB.out | apply below_alloc | apply pw_below_drewN | apply below_drew1 | refine below_set ?_ (IsS87.ge HI0.out)) | exact HB.out)); rintro e w41 ⟨v179, rfl, ho0, hi, hb, hk⟩; refine ⟨_, rfl, ?_⟩; have n0_ := Aside0.mk (Kd.R_lower ho0 (keep_size (w := w) (g := g) (row := none) (by repeat (first | (with_reducible first | exact HK.out | apply KeepBut.set_ | apply keep_drewN | apply keep_drew | apply keep_alloc) | exact HK.out)))); have n1_ := Aside0.mk (KeepBut.trans (by repeat (first | (with_reducible first | exact HK.out | apply KeepBut.set_ | apply keep_drewN | apply keep_drew | apply keep_alloc) | exact HK.out)) hk (.inl rfl)); have n2_ := Aside0.mk (hb); have n3_ := Aside0.mk (hi); clear HK; clear HB; clear HI0; have HO180 := n0_; have HK := n1_; have HB := n2_; have HI0 := n3_; clear n0_ n1_ n2_ n3_; (try clear hb); (try clear hb2); (try clear hk); (try clear hi); (try clear ho0); obtain ⟨Ao42, co42, eo42⟩ := Kd.R_slice HO180.out; subst eo42; have p199 : 0 ≤ (5 : Int) := (by omega); have q199 : 5 < (t178.length : Int) := of_decide_eq_true (by first | (with_reducible assumption) | assumption); obtain ⟨ad199, e199, hx199_0⟩ := Kd.at_int (Kd.R_reads' HO180.out).2.2 5 p199 q199; cases e199; (try simp only [show (5 : Int).toNat = 5 from rfl, Nat.reduceMul, Nat.reduceEqDiff, Go.Addr.add, ↓reduceIte] at hx199_0); have qi199 : (5 < t178.length) = True := eq_true (by omega); (try rw [show ((5 : Int)).toNat = 5 from rfl] at hx199_0); replace p199 := eq_true p199; replace q199 := eq_true q199; have p200 : 0 ≤ (4 : Int) := (by omega); have q200 : 4 < (t178.length : Int) := of_decide_eq_true (by first | (with_reducible assumption) | assumption); obtain ⟨ad200, e200, hx200_0⟩ := Kd.at_int (Kd.R_reads' HO180.out).2.2 4 p200 q200; obtain rfl : ad199 = ad200 := (by injection e200); (try simp only [show (4 : Int).toNat = 4 from rfl, Nat.reduceMul, Nat.reduceEqDiff, Go.Addr.add, ↓reduceIte] at hx200_0); have qi200 : (4 < t178.length) = True := eq_true (by omega); (try rw [show ((4 : Int)).toNat = 4 from rfl] at hx200_0); replace p200 := eq_true p200; replace q200 := eq_true q200; have p201 : 0 ≤ (3 : Int) := (by omega); have q201 : 3 < (t178.length : Int) := of_decide_eq_true (by first | (with_reducible assumption) | assumption); obtain ⟨ad201, e201, hx201_0⟩ := Kd.at_int (Kd.R_reads' HO180.out).2.2 3 p201 q201; obtain rfl : ad199 = ad201 := (by injection e201); (try simp only [show (3 : Int).toNat = 3 from rfl, Nat.reduceMul, Nat.reduceEqDiff, Go.Addr.add, ↓reduceIte] at hx201_0); have qi201 : (3 < t178.length) = True := eq_true (by omega); (try rw [show ((3 : Int)).toNat = 3 from rfl] at hx201_0); replace p201 := eq_true p201; replace q201 := eq_true q201; have p202 : 0 ≤ (2 : Int) := (by omega); have q202 : 2 < (t178.length : Int) := of_decide_eq_true (by first | (with_reducible assumption) | assumption); obtain ⟨ad202, e202, hx202_0⟩ := Kd.at_int (Kd.R_reads' HO180.out).2.2 2 p202 q202; obtain rfl : ad199 = ad202 := (by injection e202); (try simp only [show (2 : Int).toNat = 2 from rfl, Nat.reduceMul, Nat.reduceEqDiff, Go.Addr.add, ↓reduceIte] at hx202_0); have qi202 : (2 < t178.length) = True := eq_true (by omega); (try rw [show ((2 : Int)).toNat = 2 from rfl] at hx202_0); replace p202 := eq_true p202; replace q202 := eq_true q202; have p203 : 0 ≤ (1 : Int) := (by omega); have q203 : 1 < (t178.length : Int) := of_decide_eq_true (by first | (with_reducible assumption) | assumption); obtain ⟨ad203, e203, hx203_0⟩ := Kd.at_int (Kd.R_reads' HO180.out).2.2 1 p203 q203; obtain rfl : ad199 = ad203 := (by injection e203); (try simp only [show (1 : Int).toNat = 1 from rfl, Nat.reduceMul, Nat.reduceEqDiff, Go.Addr.add, ↓reduceIte] at hx203_0); have qi203 : (1 < t178.length) = True := eq_true (by omega); (try rw [show ((1 : Int)).toNat = 1 from rfl] at hx203_0); replace p203 := eq_true p203; replace q203 := eq_true q203; have p204 : 0 ≤ (0 : Int) := (by omega); have q204 : 0 < (t178.length : Int) := of_decide_eq_true (by first | (with_reducible assumption) | assumption); obtain ⟨ad204, e204, hx204_0⟩ := Kd.at_int (Kd.R_reads' HO180.out).2.2 0 p204 q204; obtain rfl : ad199 = ad204 := (by injection e204); have qi204 : (0 < t178.length) = True := eq_true (by omega); (try rw [show ((0 : Int)).toNat = 0 from rfl] at hx204_0); (try rw [Addr.add_zero'] at hx204_0); replace p204 := eq_true p204; replace q204 := eq_true q204))
                          go_ret
                          exact ⟨by first | rfl | (simp [errW_none, errW_some] <;> rfl) | (simp [*, errW_none, errW_some] <;> rfl), by repeat (first | (with_reducible first | exact HI0.out | apply IsS87.alloc | apply IsS87.drewN | apply IsS87.drew | apply IsS87.set_1 | apply IsS87.set_2 | apply IsS87.set_3) | exact HI0.out), by repeat (first | (with_reducible first | exact HB.out | apply below_alloc | apply pw_below_drewN | apply below_drew1 | refine below_set ?_ (IsS87.ge HI0.out)) | exact HB.out), by repeat (first | (with_reducible first | exact HK.out | apply KeepBut.set_ | apply keep_drewN | apply keep_drew | apply keep_alloc) | exact HK.out)⟩
                        · rw [if_neg c40] at H
                          exact absurd H (by simp)
                      · rw [if_neg c39] at H
                        exact absurd H (by simp)
                    · rw [if_neg c38] at H
                      exact absurd H (by simp)
                  · rw [if_neg c37] at H
                    exact absurd H (by simp)
                · rw [if_neg c36] at H
                  exact absurd H (by simp)
              · rw [if_neg c35] at H
                exact absurd H (by simp)
            · rw [if_neg c34] at H
              have c34b0 : ((t178.length : Int) == 6) = false := beq_eq_false_iff_ne.mpr c34
              have c34b1 : ((t178.length : Int) != 6) = true := bne_iff_ne.mpr c34
              by_cases c43 : (t178.length : Int) = 5
              · rw [if_pos c43] at H
                have c43b0 : ((t178.length : Int) == 5) = true := beq_iff_eq.mpr c43
                have c43b1 : ((t178.length : Int) != 5) = false := bne_eq_false_iff_eq.mpr c43
                clear c43
                by_cases c44 : 4 < (t178.length : Int)
                · rw [if_pos c44] at H
                  have c44b0 : decide (4 < (t178.length : Int)) = true := decide_eq_true c44
                  have c44b1 : decide (4 < t178.length) = true := decide_eq_true (by omega)
                  clear c44
                  by_cases c45 : 3 < (t178.length : Int)
                  · rw [if_pos c45] at H
                    have c45b0 : decide (3 < (t178.length : Int)) = true := decide_eq_true c45
                    have c45b1 : decide (3 < t178.length) = true := decide_eq_true (by omega)
                    clear c45
                    by_cases c46 : 2 < (t178.length : Int)
                    · rw [if_pos c46] at H
                      have c46b0 : decide (2 < (t178.length : Int)) = true := decide_eq_true c46
                      have c46b1 : decide (2 < t178.length) = true := decide_eq_true (by omega)
                      clear c46
                      by_cases c47 : 1 < (t178.length : Int)
                      · rw [if_pos c47] at H
                        have c47b0 : decide (1 < (t178.length : Int)) = true := decide_eq_true c47
                        have c47b1 : decide (1 < t178.length) = true := decide_eq_true (by omega)
                        clear c47
                        by_cases c48 : 0 < (t178.length : Int)
                        · rw [if_pos c48] at H
                          have c48b0 : decide (0 < (t178.length : Int)) = true := decide_eq_true c48
                          have c48b1 : decide (0 < t178.length) = true := decide_eq_true (by omega)
                          clear c48
                          simp only [Option.some.injEq, Prod.mk.injEq] at H
                          obtain ⟨rfl, rfl, rfl, rfl⟩ := H
                          go_wp2_with (first | ((with_reducible refine gate_callee (f := 41) rfl ?_); refine goesL_ (some 19) rfl rfl Tryd.func41 (by kernel_rfl) rfl #[.pointer (some ⟨g, 0, none⟩), .int .i64 a1] rfl (by (try simp only [List.map_toArray, List.map_cons, List.map_nil]); first | done | rfl | (simp only [List.length_drop, List.length_take]; rfl)) ?_; (with_reducible refine (num_Reader_Take.calls g s0_0 s0_1 s0_2 s0_3 a1 t178 t181 t182 t183 w0 _ ?side1 ?side2 A12.out).mono ?_); (case side1 => repeat (first | (with_reducible first | exact HI0.out | apply IsS87.alloc | apply IsS87.drewN | apply IsS87.drew | apply IsS87.set_1 | apply IsS87.set_2 | apply IsS87.set_3) | exact HI0.out)); (case side2 => repeat (first | (with_reducible first | exact HB.out | apply below_alloc | apply pw_below_drewN | apply below_drew1 | refine below_set ?_ (IsS87.ge HI0.out)) | exact HB.out)); rintro e w49 ⟨v179, rfl, ho0, hi, hb, hk⟩; refine ⟨_, rfl, ?_⟩; have n0_ := Aside0.mk (Kd.R_lower ho0 (keep_size (w := w) (g := g) (row := none) (by repeat (first | (with_reducible first | exact HK.out | apply KeepBut.set_ | apply keep_drewN | apply keep_drew | apply keep_alloc) | exact HK.out)))); have n1_ := Aside0.mk (KeepBut.trans (by repeat (first | (with_reducible first | exact HK.out | apply KeepBut.set_ | apply keep_drewN | apply keep_drew | apply keep_alloc) | exact HK.out)) hk (.inl rfl)); have n2_ := Aside0.mk (hb); have n3_ := Aside0.mk (hi); clear HK; clear HB; clear HI0; have HO180 := n0_; have HK := n1_; have HB := n2_; have HI0 := n3_; clear n0_ n1_ n2_ n3_; (try clear hb); (try clear hb2); (try clear hk); (try clear hi); (try clear ho0); obtain ⟨Ao50, co50, eo50⟩ := Kd.R_slice HO180.out; subst eo50; have p205 : 0 ≤ (4 : Int) := (by omega); have q205 : 4 < (t178.length : Int) := of_decide_eq_true (by first | (with_reducible assumption) | assumption); obtain ⟨ad205, e205, hx205_0⟩ := Kd.at_int (Kd.R_reads' HO180.out).2.2 4 p205 q205; cases e205; (try simp only [show (4 : Int).toNat = 4 from rfl, Nat.reduceMul, Nat.reduceEqDiff, Go.Addr.add, ↓reduceIte] at hx205_0); have qi205 : (4 < t178.length) = True := eq_true (by omega); (try rw [show ((4 : Int)).toNat = 4 from rfl] at hx205_0); replace p205 := eq_true p205; replace q205 := eq_true q205; have p206 : 0 ≤ (3 : Int) := (by omega); have q206 : 3 < (t178.length : Int) := of_decide_eq_true (by first | (with_reducible assumption) | assumption); obtain ⟨ad206, e206, hx206_0⟩ := Kd.at_int (Kd.R_reads' HO180.out).2.2 3 p206 q206; obtain rfl : ad205 = ad206 := (by injection e206); (try simp only [show (3 : Int).toNat = 3 from rfl, Nat.reduceMul, Nat.reduceEqDiff, Go.Addr.add, ↓reduceIte] at hx206_0); have qi206 : (3 < t178.length) = True := eq_true (by omega); (try rw [show ((3 : Int)).toNat = 3 from rfl] at hx206_0); replace p206 := eq_true p206; replace q206 := eq_true q206; have p207 : 0 ≤ (2 : Int) := (by omega); have q207 : 2 < (t178.length : Int) := of_decide_eq_true (by first | (with_reducible assumption) | assumption); obtain ⟨ad207, e207, hx207_0⟩ := Kd.at_int (Kd.R_reads' HO180.out).2.2 2 p207 q207; obtain rfl : ad205 = ad207 := (by injection e207); (try simp only [show (2 : Int).toNat = 2 from rfl, Nat.reduceMul, Nat.reduceEqDiff, Go.Addr.add, ↓reduceIte] at hx207_0); have qi207 : (2 < t178.length) = True := eq_true (by omega); (try rw [show ((2 : Int)).toNat = 2 from rfl] at hx207_0); replace p207 := eq_true p207; replace q207 := eq_true q207; have p208 : 0 ≤ (1 : Int) := (by omega); have q208 : 1 < (t178.length : Int) := of_decide_eq_true (by first | (with_reducible assumption) | assumption); obtain ⟨ad208, e208, hx208_0⟩ := Kd.at_int (Kd.R_reads' HO180.out).2.2 1 p208 q208; obtain rfl : ad205 = ad208 := (by injection e208); (try simp only [show (1 : Int).toNat = 1 from rfl, Nat.reduceMul, Nat.reduceEqDiff, Go.Addr.add, ↓reduceIte] at hx208_0); have qi208 : (1 < t178.length) = True := eq_true (by omega); (try rw [show ((1 : Int)).toNat = 1 from rfl] at hx208_0); replace p208 := eq_true p208; replace q208 := eq_true q208; have p209 : 0 ≤ (0 : Int) := (by omega); have q209 : 0 < (t178.length : Int) := of_decide_eq_true (by first | (with_reducible assumption) | assumption); obtain ⟨ad209, e209, hx209_0⟩ := Kd.at_int (Kd.R_reads' HO180.out).2.2 0 p209 q209; obtain rfl : ad205 = ad209 := (by injection e209); have qi209 : (0 < t178.length) = True := eq_true (by omega); (try rw [show ((0 : Int)).toNat = 0 from rfl] at hx209_0); (try rw [Addr.add_zero'] at hx209_0); replace p209 := eq_true p209; replace q209 := eq_true q209))
                          go_ret
                          exact ⟨by first | rfl | (simp [errW_none, errW_some] <;> rfl) | (simp [*, errW_none, errW_some] <;> rfl), by repeat (first | (with_reducible first | exact HI0.out | apply IsS87.alloc | apply IsS87.drewN | apply IsS87.drew | apply IsS87.set_1 | apply IsS87.set_2 | apply IsS87.set_3) | exact HI0.out), by repeat (first | (with_reducible first | exact HB.out | apply below_alloc | apply pw_below_drewN | apply below_drew1 | refine below_set ?_ (IsS87.ge HI0.out)) | exact HB.out), by repeat (first | (with_reducible first | exact HK.out | apply KeepBut.set_ | apply keep_drewN | apply keep_drew | apply keep_alloc) | exact HK.out)⟩
                        · rw [if_neg c48] at H
                          exact absurd H (by simp)
                      · rw [if_neg c47] at H
                        exact absurd H (by simp)
                    · rw [if_neg c46] at H
                      exact absurd H (by simp)
                  · rw [if_neg c45] at H
                    exact absurd H (by simp)
                · rw [if_neg c44] at H
                  exact absurd H (by simp)
              · rw [if_neg c43] at H
                have c43b0 : ((t178.length : Int) == 5) = false := beq_eq_false_iff_ne.mpr c43
                have c43b1 : ((t178.length : Int) != 5) = true := bne_iff_ne.mpr c43
                by_cases c51 : (t178.length : Int) = 4
                · rw [if_pos c51] at H
                  have c51b0 : ((t178.length : Int) == 4) = true := beq_iff_eq.mpr c51
                  have c51b1 : ((t178.length : Int) != 4) = false := bne_eq_false_iff_eq.mpr c51
                  clear c51
                  by_cases c52 : 3 < (t178.length : Int)
                  · rw [if_pos c52] at H
                    have c52b0 : decide (3 < (t178.length : Int)) = true := decide_eq_true c52
                    have c52b1 : decide (3 < t178.length) = true := decide_eq_true (by omega)
                    clear c52
                    by_cases c53 : 2 < (t178.length : Int)
                    · rw [if_pos c53] at H
                      have c53b0 : decide (2 < (t178.length : Int)) = true := decide_eq_true c53
                      have c53b1 : decide (2 < t178.length) = true := decide_eq_true (by omega)
                      clear c53
                      by_cases c54 : 1 < (t178.length : Int)
                      · rw [if_pos c54] at H
                        have c54b0 : decide (1 < (t178.length : Int)) = true := decide_eq_true c54
                        have c54b1 : decide (1 < t178.length) = true := decide_eq_true (by omega)
                        clear c54
                        by_cases c55 : 0 < (t178.length : Int)
                        · rw [if_pos c55] at H
                          have c55b0 : decide (0 < (t178.length : Int)) = true := decide_eq_true c55
                          have c55b1 : decide (0 < t178.length) = true := decide_eq_true (by omega)
                          clear c55
                          simp only [Option.some.injEq, Prod.mk.injEq] at H
                          obtain ⟨rfl, rfl, rfl, rfl⟩ := H
                          go_wp2_with (first | ((with_reducible refine gate_callee (f := 41) rfl ?_); refine goesL_ (some 19) rfl rfl Tryd.func41 (by kernel_rfl) rfl #[.pointer (some ⟨g, 0, none⟩), .int .i64 a1] rfl (by (try simp only [List.map_toArray, List.map_cons, List.map_nil]); first | done | rfl | (simp only [List.length_drop, List.length_take]; rfl)) ?_; (with_reducible refine (num_Reader_Take.calls g s0_0 s0_1 s0_2 s0_3 a1 t178 t181 t182 t183 w0 _ ?side1 ?side2 A12.out).mono ?_); (case side1 => repeat (first | (with_reducible first | exact HI0.out | apply IsS87.alloc | apply IsS87.drewN | apply IsS87.drew | apply IsS87.set_1 | apply IsS87.set_2 | apply IsS87.set_3) | exact HI0.out)); (case side2 => repeat (first | (with_reducible first | exact HB.out | apply below_alloc | apply pw_below_drewN | apply below_drew1 | refine below_set ?_ (IsS87.ge HI0.out)) | exact HB.out)); rintro e w56 ⟨v179, rfl, ho0, hi, hb, hk⟩; refine ⟨_, rfl, ?_⟩; have n0_ := Aside0.mk (Kd.R_lower ho0 (keep_size (w := w) (g := g) (row := none) (by repeat (first | (with_reducible first | exact HK.out | apply KeepBut.set_ | apply keep_drewN | apply keep_drew | apply keep_alloc) | exact HK.out)))); have n1_ := Aside0.mk (KeepBut.trans (by repeat (first | (with_reducible first | exact HK.out | apply KeepBut.set_ | apply keep_drewN | apply keep_drew | apply keep_alloc) | exact HK.out)) hk (.inl rfl)); have n2_ := Aside0.mk (hb); have n3_ := Aside0.mk (hi); clear HK; clear HB; clear HI0; have HO180 := n0_; have HK := n1_; have HB := n2_; have HI0 := n3_; clear n0_ n1_ n2_ n3_; (try clear hb); (try clear hb2); (try clear hk); (try clear hi); (try clear ho0); obtain ⟨Ao57, co57, eo57⟩ := Kd.R_slice HO180.out; subst eo57; have p210 : 0 ≤ (3 : Int) := (by omega); have q210 : 3 < (t178.length : Int) := of_decide_eq_true (by first | (with_reducible assumption) | assumption); obtain ⟨ad210, e210, hx210_0⟩ := Kd.at_int (Kd.R_reads' HO180.out).2.2 3 p210 q210; cases e210; (try simp only [show (3 : Int).toNat = 3 from rfl, Nat.reduceMul, Nat.reduceEqDiff, Go.Addr.add, ↓reduceIte] at hx210_0); have qi210 : (3 < t178.length) = True := eq_true (by omega); (try rw [show ((3 : Int)).toNat = 3 from rfl] at hx210_0); replace p210 := eq_true p210; replace q210 := eq_true q210; have p211 : 0 ≤ (2 : Int) := (by omega); have q211 : 2 < (t178.length : Int) := of_decide_eq_true (by first | (with_reducible assumption) | assumption); obtain ⟨ad211, e211, hx211_0⟩ := Kd.at_int (Kd.R_reads' HO180.out).2.2 2 p211 q211; obtain rfl : ad210 = ad211 := (by injection e211); (try simp only [show (2 : Int).toNat = 2 from rfl, Nat.reduceMul, Nat.reduceEqDiff, Go.Addr.add, ↓reduceIte] at hx211_0); have qi211 : (2 < t178.length) = True := eq_true (by omega); (try rw [show ((2 : Int)).toNat = 2 from rfl] at hx211_0); replace p211 := eq_true p211; replace q211 := eq_true q211; have p212 : 0 ≤ (1 : Int) := (by omega); have q212 : 1 < (t178.length : Int) := of_decide_eq_true (by first | (with_reducible assumption) | assumption); obtain ⟨ad212, e212, hx212_0⟩ := Kd.at_int (Kd.R_reads' HO180.out).2.2 1 p212 q212; obtain rfl : ad210 = ad212 := (by injection e212); (try simp only [show (1 : Int).toNat = 1 from rfl, Nat.reduceMul, Nat.reduceEqDiff, Go.Addr.add, ↓reduceIte] at hx212_0); have qi212 : (1 < t178.length) = True := eq_true (by omega); (try rw [show ((1 : Int)).toNat = 1 from rfl] at hx212_0); replace p212 := eq_true p212; replace q212 := eq_true q212; have p213 : 0 ≤ (0 : Int) := (by omega); have q213 : 0 < (t178.length : Int) := of_decide_eq_true (by first | (with_reducible assumption) | assumption); obtain ⟨ad213, e213, hx213_0⟩ := Kd.at_int (Kd.R_reads' HO180.out).2.2 0 p213 q213; obtain rfl : ad210 = ad213 := (by injection e213); have qi213 : (0 < t178.length) = True := eq_true (by omega); (try rw [show ((0 : Int)).toNat = 0 from rfl] at hx213_0); (try rw [Addr.add_zero'] at hx213_0); replace p213 := eq_true p213; replace q213 := eq_true q213))
                          go_ret
                          exact ⟨by first | rfl | (simp [errW_none, errW_some] <;> rfl) | (simp [*, errW_none, errW_some] <;> rfl), by repeat (first | (with_reducible first | exact HI0.out | apply IsS87.alloc | apply IsS87.drewN | apply IsS87.drew | apply IsS87.set_1 | apply IsS87.set_2 | apply IsS87.set_3) | exact HI0.out), by repeat (first | (with_reducible first | exact HB.out | apply below_alloc | apply pw_below_drewN | apply below_drew1 | refine below_set ?_ (IsS87.ge HI0.out)) | exact HB.out), by repeat (first | (with_reducible first | exact HK.out | apply KeepBut.set_ | apply keep_drewN | apply keep_drew | apply keep_alloc) | exact HK.out)⟩
                        · rw [if_neg c55] at H
                          exact absurd H (by simp)
                      · rw [if_neg c54] at H
                        exact absurd H (by simp)
                    · rw [if_neg c53] at H
                      exact absurd H (by simp)
                  · rw [if_neg c52] at H
                    exact absurd H (by simp)
                · rw [if_neg c51] at H
                  have c51b0 : ((t178.length : Int) == 4) = false := beq_eq_false_iff_ne.mpr c51
                  have c51b1 : ((t178.length : Int) != 4) = true := bne_iff_ne.mpr c51
                  by_cases c58 : (t178.length : Int) = 3
                  · rw [if_pos c58] at H
                    have c58b0 : ((t178.length : Int) == 3) = true := beq_iff_eq.mpr c58
                    have c58b1 : ((t178.length : Int) != 3) = false := bne_eq_false_iff_eq.mpr c58
                    clear c58
                    by_cases c59 : 2 < (t178.length : Int)
                    · rw [if_pos c59] at H
                      have c59b0 : decide (2 < (t178.length : Int)) = true := decide_eq_true c59
                      have c59b1 : decide (2 < t178.length) = true := decide_eq_true (by omega)
                      clear c59
                      by_cases c60 : 1 < (t178.length : Int)
                      · rw [if_pos c60] at H
                        have c60b0 : decide (1 < (t178.length : Int)) = true := decide_eq_true c60
                        have c60b1 : decide (1 < t178.length) = true := decide_eq_true (by omega)
                        clear c60
                        by_cases c61 : 0 < (t178.length : Int)
                        · rw [if_pos c61] at H
                          have c61b0 : decide (0 < (t178.length : Int)) = true := decide_eq_true c61
                          have c61b1 : decide (0 < t178.length) = true := decide_eq_true (by omega)
                          clear c61
                          simp only [Option.some.injEq, Prod.mk.injEq] at H
                          obtain ⟨rfl, rfl, rfl, rfl⟩ := H
                          go_wp2_with (first | ((with_reducible refine gate_callee (f := 41) rfl ?_); refine goesL_ (some 19) rfl rfl Tryd.func41 (by kernel_rfl) rfl #[.pointer (some ⟨g, 0, none⟩), .int .i64 a1] rfl (by (try simp only [List.map_toArray, List.map_cons, List.map_nil]); first | done | rfl | (simp only [List.length_drop, List.length_take]; rfl)) ?_; (with_reducible refine (num_Reader_Take.calls g s0_0 s0_1 s0_2 s0_3 a1 t178 t181 t182 t183 w0 _ ?side1 ?side2 A12.out).mono ?_); (case side1 => repeat (first | (with_reducible first | exact HI0.out | apply IsS87.alloc | apply IsS87.drewN | apply IsS87.drew | apply IsS87.set_1 | apply IsS87.set_2 | apply IsS87.set_3) | exact HI0.out)); (case side2 => repeat (first | (with_reducible first | exact HB.out | apply below_alloc | apply pw_below_drewN | apply below_drew1 | refine below_set ?_ (IsS87.ge HI0.out)) | exact HB.out)); rintro e w62 ⟨v179, rfl, ho0, hi, hb, hk⟩; refine ⟨_, rfl, ?_⟩; have n0_ := Aside0.mk (Kd.R_lower ho0 (keep_size (w := w) (g := g) (row := none) (by repeat (first | (with_reducible first | exact HK.out | apply KeepBut.set_ | apply keep_drewN | apply keep_drew | apply keep_alloc) | exact HK.out)))); have n1_ := Aside0.mk (KeepBut.trans (by repeat (first | (with_reducible first | exact HK.out | apply KeepBut.set_ | apply keep_drewN | apply keep_drew | apply keep_alloc) | exact HK.out)) hk (.inl rfl)); have n2_ := Aside0.mk (hb); have n3_ := Aside0.mk (hi); clear HK; clear HB; clear HI0; have HO180 := n0_; have HK := n1_; have HB := n2_; have HI0 := n3_; clear n0_ n1_ n2_ n3_; (try clear hb); (try clear hb2); (try clear hk); (try clear hi); (try clear ho0); obtain ⟨Ao63, co63, eo63⟩ := Kd.R_slice HO180.out; subst eo63; have p214 : 0 ≤ (2 : Int) := (by omega); have q214 : 2 < (t178.length : Int) := of_decide_eq_true (by first | (with_reducible assumption) | assumption); obtain ⟨ad214, e214, hx214_0⟩ := Kd.at_int (Kd.R_reads' HO180.out).2.2 2 p214 q214; cases e214; (try simp only [show (2 : Int).toNat = 2 from rfl, Nat.reduceMul, Nat.reduceEqDiff, Go.Addr.add, ↓reduceIte] at hx214_0); have qi214 : (2 < t178.length) = True := eq_true (by omega); (try rw [show ((2 : Int)).toNat = 2 from rfl] at hx214_0); replace p214 := eq_true p214; replace q214 := eq_true q214; have p215 : 0 ≤ (1 : Int) := (by omega); have q215 : 1 < (t178.length : Int) := of_decide_eq_true (by first | (with_reducible assumption) | assumption); obtain ⟨ad215, e215, hx215_0⟩ := Kd.at_int (Kd.R_reads' HO180.out).2.2 1 p215 q215; obtain rfl : ad214 = ad215 := (by injection e215); (try simp only [show (1 : Int).toNat = 1 from rfl, Nat.reduceMul, Nat.reduceEqDiff, Go.Addr.add, ↓reduceIte] at hx215_0); have qi215 : (1 < t178.length) = True := eq_true (by omega); (try rw [show ((1 : Int)).toNat = 1 from rfl] at hx215_0); replace p215 := eq_true p215; replace q215 := eq_true q215; have p216 : 0 ≤ (0 : Int) := (by omega); have q216 : 0 < (t178.length : Int) := of_decide_eq_true (by first | (with_reducible assumption) | assumption); obtain ⟨ad216, e216, hx216_0⟩ := Kd.at_int (Kd.R_reads' HO180.out).2.2 0 p216 q216; obtain rfl : ad214 = ad216 := (by injection e216); have qi216 : (0 < t178.length) = True := eq_true (by omega); (try rw [show ((0 : Int)).toNat = 0 from rfl] at hx216_0); (try rw [Addr.add_zero'] at hx216_0); replace p216 := eq_true p216; replace q216 := eq_true q216))
                          go_ret
                          exact ⟨by first | rfl | (simp [errW_none, errW_some] <;> rfl) | (simp [*, errW_none, errW_some] <;> rfl), by repeat (first | (with_reducible first | exact HI0.out | apply IsS87.alloc | apply IsS87.drewN | apply IsS87.drew | apply IsS87.set_1 | apply IsS87.set_2 | apply IsS87.set_3) | exact HI0.out), by repeat (first | (with_reducible first | exact HB.out | apply below_alloc | apply pw_below_drewN | apply below_drew1 | refine below_set ?_ (IsS87.ge HI0.out)) | exact HB.out), by repeat (first | (with_reducible first | exact HK.out | apply KeepBut.set_ | apply keep_drewN | apply keep_drew | apply keep_alloc) | exact HK.out)⟩
                        · rw [if_neg c61] at H
                          exact absurd H (by simp)
                      · rw [if_neg c60] at H
                        exact absurd H (by simp)
                    · rw [if_neg c59] at H
                      exact absurd H (by simp)
                  · rw [if_neg c58] at H
                    have c58b0 : ((t178.length : Int) == 3) = false := beq_eq_false_iff_ne.mpr c58
                    have c58b1 : ((t178.length : Int) != 3) = true := bne_iff_ne.mpr c58
                    by_cases c64 : (t178.length : Int) = 2
                    · rw [if_pos c64] at H
                      have c64b0 : ((t178.length : Int) == 2) = true := beq_iff_eq.mpr c64
                      have c64b1 : ((t178.length : Int) != 2) = false := bne_eq_false_iff_eq.mpr c64
                      clear c64
                      by_cases c65 : 1 < (t178.length : Int)
                      · rw [if_pos c65] at H
                        have c65b0 : decide (1 < (t178.length : Int)) = true := decide_eq_true c65
                        have c65b1 : decide (1 < t178.length) = true := decide_eq_true (by omega)
                        clear c65
                        by_cases c66 : 0 < (t178.length : Int)
                        · rw [if_pos c66] at H
                          have c66b0 : decide (0 < (t178.length : Int)) = true := decide_eq_true c66
                          have c66b1 : decide (0 < t178.length) = true := decide_eq_true (by omega)
                          clear c66
                          simp only [Option.some.injEq, Prod.mk.injEq] at H
                          obtain ⟨rfl, rfl, rfl, rfl⟩ := H
                          go_wp2_with (first | ((with_reducible refine gate_callee (f := 41) rfl ?_); refine goesL_ (some 19) rfl rfl Tryd.func41 (by kernel_rfl) rfl #[.pointer (some ⟨g, 0, none⟩), .int .i64 a1] rfl (by (try simp only [List.map_toArray, List.map_cons, List.map_nil]); first | done | rfl | (simp only [List.length_drop, List.length_take]; rfl)) ?_; (with_reducible refine (num_Reader_Take.calls g s0_0 s0_1 s0_2 s0_3 a1 t178 t181 t182 t183 w0 _ ?side1 ?side2 A12.out).mono ?_); (case side1 => repeat (first | (with_reducible first | exact HI0.out | apply IsS87.alloc | apply IsS87.drewN | apply IsS87.drew | apply IsS87.set_1 | apply IsS87.set_2 | apply IsS87.set_3) | exact HI0.out)); (case side2 => repeat (first | (with_reducible first | exact HB.out | apply below_alloc | apply pw_below_drewN | apply below_drew1 | refine below_set ?_ (IsS87.ge HI0.out)) | exact HB.out)); rintro e w67 ⟨v179, rfl, ho0, hi, hb, hk⟩; refine ⟨_, rfl, ?_⟩; have n0_ := Aside0.mk (Kd.R_lower ho0 (keep_size (w := w) (g := g) (row := none) (by repeat (first | (with_reducible first | exact HK.out | apply KeepBut.set_ | apply keep_drewN | apply keep_drew | apply keep_alloc) | exact HK.out)))); have n1_ := Aside0.mk (KeepBut.trans (by repeat (first | (with_reducible first | exact HK.out | apply KeepBut.set_ | apply keep_drewN | apply keep_drew | apply keep_alloc) | exact HK.out)) hk (.inl rfl)); have n2_ := Aside0.mk (hb); have n3_ := Aside0.mk (hi); clear HK; clear HB; clear HI0; have HO180 := n0_; have HK := n1_; have HB := n2_; have HI0 := n3_; clear n0_ n1_ n2_ n3_; (try clear hb); (try clear hb2); (try clear hk); (try clear hi); (try clear ho0); obtain ⟨Ao68, co68, eo68⟩ := Kd.R_slice HO180.out; subst eo68; have p217 : 0 ≤ (1 : Int) := (by omega); have q217 : 1 < (t178.length : Int) := of_decide_eq_true (by first | (with_reducible assumption) | assumption); obtain ⟨ad217, e217, hx217_0⟩ := Kd.at_int (Kd.R_reads' HO180.out).2.2 1 p217 q217; cases e217; (try simp only [show (1 : Int).toNat = 1 from rfl, Nat.reduceMul, Nat.reduceEqDiff, Go.Addr.add, ↓reduceIte] at hx217_0); have qi217 : (1 < t178.length) = True := eq_true (by omega); (try rw [show ((1 : Int)).toNat = 1 from rfl] at hx217_0); replace p217 := eq_true p217; replace q217 := eq_true q217; have p218 : 0 ≤ (0 : Int) := (by omega); have q218 : 0 < (t178.length : Int) := of_decide_eq_true (by first | (with_reducible assumption) | assumption); obtain ⟨ad218, e218, hx218_0⟩ := Kd.at_int (Kd.R_reads' HO180.out).2.2 0 p218 q218; obtain rfl : ad217 = ad218 := (by injection e218); have qi218 : (0 < t178.length) = True := eq_true (by omega); (try rw [show ((0 : Int)).toNat = 0 from rfl] at hx218_0); (try rw [Addr.add_zero'] at hx218_0); replace p218 := eq_true p218; replace q218 := eq_true q218))
                          go_ret
                          exact ⟨by first | rfl | (simp [errW_none, errW_some] <;> rfl) | (simp [*, errW_none, errW_some] <;> rfl), by repeat (first | (with_reducible first | exact HI0.out | apply IsS87.alloc | apply IsS87.drewN | apply IsS87.drew | apply IsS87.set_1 | apply IsS87.set_2 | apply IsS87.set_3) | exact HI0.out), by repeat (first | (with_reducible first | exact HB.out | apply below_alloc | apply pw_below_drewN | apply below_drew1 | refine below_set ?_ (IsS87.ge HI0.out)) | exact HB.out), by repeat (first | (with_reducible first | exact HK.out | apply KeepBut.set_ | apply keep_drewN | apply keep_drew | apply keep_alloc) | exact HK.out)⟩
                        · rw [if_neg c66] at H
                          exact absurd H (by simp)
                      · rw [if_neg c65] at H
                        exact absurd H (by simp)
                    · rw [if_neg c64] at H
                      have c64b0 : ((t178.length : Int) == 2) = false := beq_eq_false_iff_ne.mpr c64
                      have c64b1 : ((t178.length : Int) != 2) = true := bne_iff_ne.mpr c64
                      by_cases c69 : (t178.length : Int) = 1
                      · rw [if_pos c69] at H
                        have c69b0 : ((t178.length : Int) == 1) = true := beq_iff_eq.mpr c69
                        have c69b1 : ((t178.length : Int) != 1) = false := bne_eq_false_iff_eq.mpr c69
                        clear c69
                        by_cases c70 : 0 < (t178.length : Int)
                        · rw [if_pos c70] at H
                          have c70b0 : decide (0 < (t178.length : Int)) = true := decide_eq_true c70
                          have c70b1 : decide (0 < t178.length) = true := decide_eq_true (by omega)
                          clear c70
                          simp only [Option.some.injEq, Prod.mk.injEq] at H
                          obtain ⟨rfl, rfl, rfl, rfl⟩ := H
                          go_wp2_with (first | ((with_reducible refine gate_callee (f := 41) rfl ?_); refine goesL_ (some 19) rfl rfl Tryd.func41 (by kernel_rfl) rfl #[.pointer (some ⟨g, 0, none⟩), .int .i64 a1] rfl (by (try simp only [List.map_toArray, List.map_cons, List.map_nil]); first | done | rfl | (simp only [List.length_drop, List.length_take]; rfl)) ?_; (with_reducible refine (num_Reader_Take.calls g s0_0 s0_1 s0_2 s0_3 a1 t178 t181 t182 t183 w0 _ ?side1 ?side2 A12.out).mono ?_); (case side1 => repeat (first | (with_reducible first | exact HI0.out | apply IsS87.alloc | apply IsS87.drewN | apply IsS87.drew | apply IsS87.set_1 | apply IsS87.set_2 | apply IsS87.set_3) | exact HI0.out)); (case side2 => repeat (first | (with_reducible first | exact HB.out | apply below_alloc | apply pw_below_drewN | apply below_drew1 | refine below_set ?_ (IsS87.ge HI0.out)) | exact HB.out)); rintro e w71 ⟨v179, rfl, ho0, hi, hb, hk⟩; refine ⟨_, rfl, ?_⟩; have n0_ := Aside0.mk (Kd.R_lower ho0 (keep_size (w := w) (g := g) (row := none) (by repeat (first | (with_reducible first | exact HK.out | apply KeepBut.set_ | apply keep_drewN | apply keep_drew | apply keep_alloc) | exact HK.out)))); have n1_ := Aside0.mk (KeepBut.trans (by repeat (first | (with_reducible first | exact HK.out | apply KeepBut.set_ | apply keep_drewN | apply keep_drew | apply keep_alloc) | exact HK.out)) hk (.inl rfl)); have n2_ := Aside0.mk (hb); have n3_ := Aside0.mk (hi); clear HK; clear HB; clear HI0; have HO180 := n0_; have HK := n1_; have HB := n2_; have HI0 := n3_; clear n0_ n1_ n2_ n3_; (try clear hb); (try clear hb2); (try clear hk); (try clear hi); (try clear ho0); obtain ⟨Ao72, co72, eo72⟩ := Kd.R_slice HO180.out; subst eo72; have p219 : 0 ≤ (0 : Int) := (by omega); have q219 : 0 < (t178.length : Int) := of_decide_eq_true (by first | (with_reducible assumption) | assumption); obtain ⟨ad219, e219, hx219_0⟩ := Kd.at_int (Kd.R_reads' HO180.out).2.2 0 p219 q219; cases e219; have qi219 : (0 < t178.length) = True := eq_true (by omega); (try rw [show ((0 : Int)).toNat = 0 from rfl] at hx219_0); (try rw [Addr.add_zero'] at hx219_0); replace p219 := eq_true p219; replace q219 := eq_true q219))
                          go_ret
                          exact ⟨by first | rfl | (simp [errW_none, errW_some] <;> rfl) | (simp [*, errW_none, errW_some] <;> rfl), by repeat (first | (with_reducible first | exact HI0.out | apply IsS87.alloc | apply IsS87.drewN | apply IsS87.drew | apply IsS87.set_1 | apply IsS87.set_2 | apply IsS87.set_3) | exact HI0.out), by repeat (first | (with_reducible first | exact HB.out | apply below_alloc | apply pw_below_drewN | apply below_drew1 | refine below_set ?_ (IsS87.ge HI0.out)) | exact HB.out), by repeat (first | (with_reducible first | exact HK.out | apply KeepBut.set_ | apply keep_drewN | apply keep_drew | apply keep_alloc) | exact HK.out)⟩
                        · rw [if_neg c70] at H
                          exact absurd H (by simp)
                      · rw [if_neg c69] at H
                        have c69b0 : ((t178.length : Int) == 1) = false := beq_eq_false_iff_ne.mpr c69
                        have c69b1 : ((t178.length : Int) != 1) = true := bne_iff_ne.mpr c69
                        simp only [Option.some.injEq, Prod.mk.injEq] at H
                        obtain ⟨rfl, rfl, rfl, rfl⟩ := H
                        go_wp2_with (first | ((with_reducible refine gate_callee (f := 41) rfl ?_); refine goesL_ (some 19) rfl rfl Tryd.func41 (by kernel_rfl) rfl #[.pointer (some ⟨g, 0, none⟩), .int .i64 a1] rfl (by (try simp only [List.map_toArray, List.map_cons, List.map_nil]); first | done | rfl | (simp only [List.length_drop, List.length_take]; rfl)) ?_; (with_reducible refine (num_Reader_Take.calls g s0_0 s0_1 s0_2 s0_3 a1 t178 t181 t182 t183 w0 _ ?side1 ?side2 A12.out).mono ?_); (case side1 => repeat (first | (with_reducible first | exact HI0.out | apply IsS87.alloc | apply IsS87.drewN | apply IsS87.drew | apply IsS87.set_1 | apply IsS87.set_2 | apply IsS87.set_3) | exact HI0.out)); (case side2 => repeat (first | (with_reducible first | exact HB.out | apply below_alloc | apply pw_below_drewN | apply below_drew1 | refine below_set ?_ (IsS87.ge HI0.out)) | exact HB.out)); rintro e w73 ⟨v179, rfl, ho0, hi, hb, hk⟩; refine ⟨_, rfl, ?_⟩; have n0_ := Aside0.mk (Kd.R_lower ho0 (keep_size (w := w) (g := g) (row := none) (by repeat (first | (with_reducible first | exact HK.out | apply KeepBut.set_ | apply keep_drewN | apply keep_drew | apply keep_alloc) | exact HK.out)))); have n1_ := Aside0.mk (KeepBut.trans (by repeat (first | (with_reducible first | exact HK.out | apply KeepBut.set_ | apply keep_drewN | apply keep_drew | apply keep_alloc) | exact HK.out)) hk (.inl rfl)); have n2_ := Aside0.mk (hb); have n3_ := Aside0.mk (hi); clear HK; clear HB; clear HI0; have HO180 := n0_; have HK := n1_; have HB := n2_; have HI0 := n3_; clear n0_ n1_ n2_ n3_; (try clear hb); (try clear hb2); (try clear hk); (try clear hi); (try clear ho0); obtain ⟨Ao74, co74, eo74⟩ := Kd.R_slice HO180.out; subst eo74))
                        go_ret
                        exact ⟨by first | rfl | (simp [errW_none, errW_some] <;> rfl) | (simp [*, errW_none, errW_some] <;> rfl), by repeat (first | (with_reducible first | exact HI0.out | apply IsS87.alloc | apply IsS87.drewN | apply IsS87.drew | apply IsS87.set_1 | apply IsS87.set_2 | apply IsS87.set_3) | exact HI0.out), by repeat (first | (with_reducible first | exact HB.out | apply below_alloc | apply pw_below_drewN | apply below_drew1 | refine below_set ?_ (IsS87.ge HI0.out)) | exact HB.out), by repeat (first | (with_reducible first | exact HK.out | apply KeepBut.set_ | apply keep_drewN | apply keep_drew | apply keep_alloc) | exact HK.out)⟩

-- NOT PRINTED: function 89 (reflectlite_ValueOf)

-- NOT PRINTED: function 90 (reflectlite_Value_Type)

-- NOT PRINTED: function 91 (reflectlite_Value_IsNil)

-- NOT PRINTED: function 109 (reflectlite_TypeOf)

-- NOT PRINTED: function 110 (reflectlite_Value_Elem)

-- NOT PRINTED: function 111 (reflectlite_Value_Set)

-- NOT PRINTED: function 92 (errors_as)

-- NOT PRINTED: function 73 (errors_As)

/-! ### num_Reader_Err: function 39 -/
section
open Go.Extern.Stop Go.Stop Go.Extern
/-- errors.As(nil, target). -/
theorem as_nil (t : Value) (w : World) :
    Calls Tryd.prog 73 #[.nilIface, t] w fun e w' => e = .returned (.bool false) ∧ w' = w := by
  go_enter Tryd.func73, Tryd.ntmps73
  go_wp2
  go_ret
  exact ⟨rfl, rfl⟩

/-! ### CLOSED FACTS ON THE MODEL's ENTRIES FOR internal/reflectlite, at this program's types: 25: *p.E · 27: **p.E · 23: error · 45: reflectlite's rtype · 1: how many package-level variables the dump has -/
theorem asf_valueOf27 (t : Addr) (w : World) : (ReflectliteValue.unpack (.iface 94 (.pointer (some t)))).run Tryd.prog w
    = .ok (.agg #[.pointer (some ⟨1, 94, none⟩), .pointer (some ⟨w.heap.size, 0, none⟩), .int .u64 150]) (w.alloc (.cells #[.pointer (some t)] 94)) := by kernel_rfl
theorem asf_type27 (a : Addr) (w : World) : (ReflectliteValue.methodAny (ReflectliteValue.valueError "reflectlite.Value.Type" 0) (fun t _ _ _ => ReflectliteType.toType t) #[.agg #[.pointer (some ⟨1, 94, none⟩), .pointer (some a), .int .u64 150]]).run Tryd.prog w
    = .ok (.iface 133 (.agg #[.pointer (some ⟨1, 94, none⟩)])) w := by kernel_rfl
theorem asf_methodKind (h : Value) (w : World) : (Go.method 292 133 (.agg #[h]) "Kind").run Tryd.prog w = .ok (147, h) w := by kernel_rfl
theorem asf_kind27 (w : World) : ((ReflectliteType.abiMethod fun t => (fun a : Nat => Value.int IntKind.u8 (a : Int)) <$> Rtype.kind t) #[.pointer (some ⟨1, 94, none⟩)]).run Tryd.prog w = .ok (.int .u8 22) w := by kernel_rfl
theorem asf_kind25 (w : World) : ((ReflectliteType.abiMethod fun t => (fun a : Nat => Value.int IntKind.u8 (a : Int)) <$> Rtype.kind t) #[.pointer (some ⟨1, 90, none⟩)]).run Tryd.prog w = .ok (.int .u8 22) w := by kernel_rfl

/-! ### THE ENTRIES THAT READ OR WRITE MEMORY: laws with a premise on the cell (after Derived/Lib/ReflectliteSlice.lean's manner: each unfolding a lemma of its own, by rfl) -/
theorem rlm (z : Sem Value) (f : TypeId → Addr → Nat → Nat → Sem Value) (v : Value) :
    ReflectliteValue.method z f #[v] = (do match ← ReflectliteValue.parts v with | none => z | some (t, a, fl) => f t a fl (fl % 32)) := rfl
theorem asf_parts27 (a : Addr) (w : World) : (ReflectliteValue.parts (.agg #[.pointer (some ⟨1, 94, none⟩), .pointer (some a), .int .u64 150])).run Tryd.prog w = .ok (some (94, a, 150)) w := by kernel_rfl
/-- (Value).IsNil at the Value of a **p.E that is not nil. -/
theorem asf_isNil27 (a p : Addr) (W : World) (ha : W.cell? a = some (.pointer (some p))) :
    (ReflectliteValue.method (ReflectliteValue.valueError "reflectlite.Value.IsNil" 0) ReflectliteValue.isNil #[.agg #[.pointer (some ⟨1, 94, none⟩), .pointer (some a), .int .u64 150]]).run Tryd.prog W = .ok (.bool false) W := by
  rw [rlm]
  simp only [Sem.run_bind, asf_parts27, Result.andThen]
  simp [ReflectliteValue.isNil, loadVar, isAgg, underlying, Tryd.underlying94, ha, Result.andThen]

theorem asf_methodElem (h : Value) (w : World) : (Go.method 292 133 (.agg #[h]) "Elem").run Tryd.prog w = .ok (160, .agg #[h]) w := by kernel_rfl
theorem asf_methodImplements (h : Value) (w : World) : (Go.method 292 133 (.agg #[h]) "Implements").run Tryd.prog w = .ok (161, .agg #[h]) w := by kernel_rfl
theorem asf_methodAssignableTo (h : Value) (w : World) : (Go.method 292 133 (.agg #[h]) "AssignableTo").run Tryd.prog w = .ok (158, .agg #[h]) w := by kernel_rfl
theorem asf_elem27 (w : World) : (ReflectliteType.method ReflectliteType.elem #[.agg #[.pointer (some ⟨1, 94, none⟩)]]).run Tryd.prog w = .ok (.iface 133 (.agg #[.pointer (some ⟨1, 90, none⟩)])) w := by kernel_rfl
theorem asf_implements25 (w : World) : (ReflectliteType.relation "Implements" ReflectliteType.implements_ #[.agg #[.pointer (some ⟨1, 90, none⟩)], .iface 133 (.agg #[.pointer (some ⟨1, 85, none⟩)])]).run Tryd.prog w = .ok (.bool true) w := by kernel_rfl
theorem asf_typeOf25 (v : Value) (w : World) : (ReflectliteType.typeOf #[.iface 90 v]).run Tryd.prog w = .ok (.iface 133 (.agg #[.pointer (some ⟨1, 90, none⟩)])) w := by kernel_rfl
theorem asf_assignable25 (w : World) : (ReflectliteType.relation "AssignableTo" ReflectliteType.assignableTo #[.agg #[.pointer (some ⟨1, 90, none⟩)], .iface 133 (.agg #[.pointer (some ⟨1, 90, none⟩)])]).run Tryd.prog w = .ok (.bool true) w := by kernel_rfl
theorem asf_valueOf25 (e : Addr) (w : World) : (ReflectliteValue.unpack (.iface 90 (.pointer (some e)))).run Tryd.prog w
    = .ok (.agg #[.pointer (some ⟨1, 90, none⟩), .pointer (some ⟨w.heap.size, 0, none⟩), .int .u64 150]) (w.alloc (.cells #[.pointer (some e)] 90)) := by kernel_rfl

theorem asf_elemOf27 (w : World) : (Rtype.elem? 94).run Tryd.prog w = .ok (some 90) w := by kernel_rfl
theorem asf_mk25 (p : Addr) (w : World) : (ReflectliteValue.mk 90 p ReflectliteValue.flagAddr).run Tryd.prog w = .ok (.agg #[.pointer (some ⟨1, 90, none⟩), .pointer (some p), .int .u64 406]) w := by kernel_rfl
/-- (Value).Elem at the Value of a **p.E that is not nil: the Value of the *p.E variable that it points to, addressable. -/
theorem asf_elemV27 (a p : Addr) (W : World) (ha : W.cell? a = some (.pointer (some p))) :
    (ReflectliteValue.method (ReflectliteValue.valueError "reflectlite.Value.Elem" 0) ReflectliteValue.elem #[.agg #[.pointer (some ⟨1, 94, none⟩), .pointer (some a), .int .u64 150]]).run Tryd.prog W
      = .ok (.agg #[.pointer (some ⟨1, 90, none⟩), .pointer (some p), .int .u64 406]) W := by
  rw [rlm]
  simp only [Sem.run_bind, asf_parts27, Result.andThen]
  simp [ReflectliteValue.elem, loadVar, isAgg, underlying, Tryd.underlying94, ha, Result.andThen, asf_elemOf27, asf_mk25]
theorem rls (v x : Value) : ReflectliteValue.set #[v, x] = (do
    let (some (dst, a, fl), some (src, b, _)) := (← ReflectliteValue.parts v, ← ReflectliteValue.parts x)
      | unsupported (.noEntry "extern/(internal/reflectlite.Value).Set.zeroValue")
    if fl / ReflectliteValue.flagAddr % 2 == 0 then unsupported (.noEntry "extern/(internal/reflectlite.Value).Set.unaddressable")
    let val ← loadVar src b
    if ← Rtype.directlyAssignable dst src then storeVar dst a val
    else if ← Rtype.implements dst src then
      if (← Rtype.kind src) == 20 then
        match val with
        | .nilIface => unsupported (.noEntry "extern/reflectlite: a nil value of one interface type handed on as a value of another")
        | _ => storeVar dst a val
      else storeVar dst a (.iface src val)
    else panicString ("reflectlite.Set: value of type " ++ (← Rtype.spelt src) ++ " is not assignable to type " ++ (← Rtype.spelt dst))
    pure (.tuple #[])) := rfl
theorem asf_parts25a (a : Addr) (w : World) : (ReflectliteValue.parts (.agg #[.pointer (some ⟨1, 90, none⟩), .pointer (some a), .int .u64 406])).run Tryd.prog w = .ok (some (90, a, 406)) w := by kernel_rfl
theorem asf_parts25 (a : Addr) (w : World) : (ReflectliteValue.parts (.agg #[.pointer (some ⟨1, 90, none⟩), .pointer (some a), .int .u64 150])).run Tryd.prog w = .ok (some (90, a, 150)) w := by kernel_rfl
theorem asf_direct25 (w : World) : (Rtype.directlyAssignable 90 90).run Tryd.prog w = .ok true w := by kernel_rfl
/-- (Value).Set: the *p.E variable at 'ta' gets what the Value's own variable 'b' holds. -/
theorem asf_set25 (ta b e : Addr) (old : Value) (W : World) (hb : W.cell? b = some (.pointer (some e))) (ht : W.cell? ta = some old) (hf : W.frozen? ta = false) :
    (ReflectliteValue.set #[.agg #[.pointer (some ⟨1, 90, none⟩), .pointer (some ta), .int .u64 406], .agg #[.pointer (some ⟨1, 90, none⟩), .pointer (some b), .int .u64 150]]).run Tryd.prog W
      = .ok (.tuple #[]) (W.setCell ta (.pointer (some e))) := by
  rw [rls]
  simp only [Sem.run_bind, asf_parts25a, asf_parts25, Result.andThen]
  simp [ReflectliteValue.flagAddr, loadVar, isAgg, underlying, Tryd.underlying90, hb, Result.andThen, asf_direct25, storeVar, Value.cells, storeCells, Addr.add]
  rw [run_store Tryd.prog W ta _ _ (by rfl)]
  simp [ht, hf]

set_option maxRecDepth 100000 in
set_option maxHeartbeats 4000000 in
theorem as_hit (e t : Addr) (old : Value) (w : World) (hg : w.cell? ⟨0, 0, none⟩ = some (.iface 133 (.agg #[.pointer (some ⟨1, 85, none⟩)]))) (ht0 : w.cell? t = some old) (hf0 : w.frozen? t = false) :
    Calls Tryd.prog 73 #[.iface 90 (.pointer (some e)), .iface 94 (.pointer (some t))] w fun ev w' => ev = .returned (.bool true) ∧ w' = ((((w.alloc (.cells #[.pointer (some t)] 94)).alloc (.cells #[.pointer (some ⟨1, 94, none⟩), .pointer (some ⟨w.heap.size, 0, none⟩), .int .u64 150] 110)).alloc (.cells #[.pointer (some ⟨1, 94, none⟩), .pointer (some ⟨w.heap.size, 0, none⟩), .int .u64 150] 110)).alloc (.cells #[.pointer (some e)] 90)).setCell t (.pointer (some e)) := by
  have h6 := @run_callFunc_extern Tryd.prog 89 _ (fun args => ReflectliteValue.unpack (args.getD 0 (.tuple #[]))) Tryd.func89 (by kernel_rfl) (by kernel_rfl) (by kernel_rfl) (by kernel_rfl)
  have h7 := @run_callFunc_extern Tryd.prog 90 _ (ReflectliteValue.methodAny (ReflectliteValue.valueError "reflectlite.Value.Type" 0) (fun t _ _ _ => ReflectliteType.toType t)) Tryd.func90 (by kernel_rfl) (by kernel_rfl) (by kernel_rfl) (by kernel_rfl)
  have h8 := @run_callFunc_extern Tryd.prog 91 _ (ReflectliteValue.method (ReflectliteValue.valueError "reflectlite.Value.IsNil" 0) ReflectliteValue.isNil) Tryd.func91 (by kernel_rfl) (by kernel_rfl) (by kernel_rfl) (by kernel_rfl)
  have h27 := @run_callFunc_extern Tryd.prog 147 _ (ReflectliteType.abiMethod fun t => do pure (.int .u8 (← Rtype.kind t))) Tryd.func147 (by kernel_rfl) (by kernel_rfl) (by kernel_rfl) (by kernel_rfl)
  have h37 := @run_callFunc_extern Tryd.prog 160 _ (ReflectliteType.method ReflectliteType.elem) Tryd.func160 (by kernel_rfl) (by kernel_rfl) (by kernel_rfl) (by kernel_rfl)
  have h38 := @run_callFunc_extern Tryd.prog 161 _ (ReflectliteType.relation "Implements" ReflectliteType.implements_) Tryd.func161 (by kernel_rfl) (by kernel_rfl) (by kernel_rfl) (by kernel_rfl)
  have h10 := @run_callFunc_extern Tryd.prog 109 _ ReflectliteType.typeOf Tryd.func109 (by kernel_rfl) (by kernel_rfl) (by kernel_rfl) (by kernel_rfl)
  have h35 := @run_callFunc_extern Tryd.prog 158 _ (ReflectliteType.relation "AssignableTo" ReflectliteType.assignableTo) Tryd.func158 (by kernel_rfl) (by kernel_rfl) (by kernel_rfl) (by kernel_rfl)
  have h11 := @run_callFunc_extern Tryd.prog 110 _ (ReflectliteValue.method (ReflectliteValue.valueError "reflectlite.Value.Elem" 0) ReflectliteValue.elem) Tryd.func110 (by kernel_rfl) (by kernel_rfl) (by kernel_rfl) (by kernel_rfl)
  have h12 := @run_callFunc_extern Tryd.prog 111 _ ReflectliteValue.set Tryd.func111 (by kernel_rfl) (by kernel_rfl) (by kernel_rfl) (by kernel_rfl)
  have tO := asf_typeOf25
  have mA := asf_methodAssignableTo
  have a25 := asf_assignable25
  have v25 := asf_valueOf25
  have f6 := asf_valueOf27
  have f7 := asf_type27
  have mK := asf_methodKind
  have mE := asf_methodElem
  have mI := asf_methodImplements
  have k27 := asf_kind27
  have k25 := asf_kind25
  have e27 := asf_elem27
  have i25 := asf_implements25
  have n8 := asf_isNil27 ⟨w.heap.size, 0, none⟩ t ((w.alloc (.cells #[.pointer (some t)] 94)).alloc (.cells #[.pointer (some ⟨1, 94, none⟩), .pointer (some ⟨w.heap.size, 0, none⟩), .int .u64 150] 110)) (by simp)
  have hlt : 0 < w.heap.size := by
    rcases Nat.eq_zero_or_pos w.heap.size with h0 | h
    · simp [World.cell?, h0] at hg
    · exact h
  have hg2 : ((w.alloc (.cells #[.pointer (some t)] 94)).alloc (.cells #[.pointer (some ⟨1, 94, none⟩), .pointer (some ⟨w.heap.size, 0, none⟩), .int .u64 150] 110)).cell? ⟨0, 0, none⟩ = some (.iface 133 (.agg #[.pointer (some ⟨1, 85, none⟩)])) := by
    rw [World.cell?_alloc_lt _ _ ⟨0, 0, none⟩ (by simp), World.cell?_alloc_lt _ _ ⟨0, 0, none⟩ hlt]; exact hg
  have htl : t.block < w.heap.size := by
    rcases Nat.lt_or_ge t.block w.heap.size with h | h
    · exact h
    · simp [World.cell?, Array.getElem?_eq_none h] at ht0
  have el := asf_elemV27 ⟨w.heap.size, 0, none⟩ t (((w.alloc (.cells #[.pointer (some t)] 94)).alloc (.cells #[.pointer (some ⟨1, 94, none⟩), .pointer (some ⟨w.heap.size, 0, none⟩), .int .u64 150] 110)).alloc (.cells #[.pointer (some ⟨1, 94, none⟩), .pointer (some ⟨w.heap.size, 0, none⟩), .int .u64 150] 110)) (by rw [World.cell?_alloc_lt _ _ ⟨w.heap.size, 0, none⟩ (by simp; omega)]; simp)
  have st := asf_set25 t ⟨w.heap.size + 1 + 1 + 1, 0, none⟩ e old ((((w.alloc (.cells #[.pointer (some t)] 94)).alloc (.cells #[.pointer (some ⟨1, 94, none⟩), .pointer (some ⟨w.heap.size, 0, none⟩), .int .u64 150] 110)).alloc (.cells #[.pointer (some ⟨1, 94, none⟩), .pointer (some ⟨w.heap.size, 0, none⟩), .int .u64 150] 110)).alloc (.cells #[.pointer (some e)] 90))
    (by rw [World.cell?_alloc_at _ _ _ _ (by simp)]; rfl)
    (by rw [World.cell?_alloc_lt _ _ t (by simp; omega), World.cell?_alloc_lt _ _ t (by simp; omega), World.cell?_alloc_lt _ _ t (by simp; omega), World.cell?_alloc_lt _ _ t htl]; exact ht0)
    (by rw [World.frozen?_alloc_old _ _ t (by simp; omega), World.frozen?_alloc_old _ _ t (by simp; omega), World.frozen?_alloc_old _ _ t (by simp; omega), World.frozen?_alloc_old _ _ t (Nat.ne_of_lt htl)]; exact hf0)
  go_enter Tryd.func73, Tryd.ntmps73
  go_wp2
  refine wp_loop_rounds 1 ?_
  rw [rounds_succ]
  go_wp2
  go_ret
  exact ⟨rfl, rfl⟩
theorem asf_valueOf77 (t : Addr) (w : World) : (ReflectliteValue.unpack (.iface 95 (.pointer (some t)))).run Tryd.prog w
    = .ok (.agg #[.pointer (some ⟨1, 95, none⟩), .pointer (some ⟨w.heap.size, 0, none⟩), .int .u64 150]) (w.alloc (.cells #[.pointer (some t)] 95)) := by kernel_rfl
theorem asf_type77 (a : Addr) (w : World) : (ReflectliteValue.methodAny (ReflectliteValue.valueError "reflectlite.Value.Type" 0) (fun t _ _ _ => ReflectliteType.toType t) #[.agg #[.pointer (some ⟨1, 95, none⟩), .pointer (some a), .int .u64 150]]).run Tryd.prog w
    = .ok (.iface 133 (.agg #[.pointer (some ⟨1, 95, none⟩)])) w := by kernel_rfl
theorem asf_kind77 (w : World) : ((ReflectliteType.abiMethod fun t => (fun a : Nat => Value.int IntKind.u8 (a : Int)) <$> Rtype.kind t) #[.pointer (some ⟨1, 95, none⟩)]).run Tryd.prog w = .ok (.int .u8 22) w := by kernel_rfl
theorem asf_kind30 (w : World) : ((ReflectliteType.abiMethod fun t => (fun a : Nat => Value.int IntKind.u8 (a : Int)) <$> Rtype.kind t) #[.pointer (some ⟨1, 25, none⟩)]).run Tryd.prog w = .ok (.int .u8 2) w := by kernel_rfl
theorem asf_elem77 (w : World) : (ReflectliteType.method ReflectliteType.elem #[.agg #[.pointer (some ⟨1, 95, none⟩)]]).run Tryd.prog w = .ok (.iface 133 (.agg #[.pointer (some ⟨1, 25, none⟩)])) w := by kernel_rfl
theorem asf_implements30 (w : World) : (ReflectliteType.relation "Implements" ReflectliteType.implements_ #[.agg #[.pointer (some ⟨1, 25, none⟩)], .iface 133 (.agg #[.pointer (some ⟨1, 85, none⟩)])]).run Tryd.prog w = .ok (.bool true) w := by kernel_rfl
theorem asf_typeOf74 (v : Value) (w : World) : (ReflectliteType.typeOf #[.iface 90 v]).run Tryd.prog w = .ok (.iface 133 (.agg #[.pointer (some ⟨1, 90, none⟩)])) w := by kernel_rfl
theorem asf_typeOf30 (v : Value) (w : World) : (ReflectliteType.typeOf #[.iface 25 v]).run Tryd.prog w = .ok (.iface 133 (.agg #[.pointer (some ⟨1, 25, none⟩)])) w := by kernel_rfl
theorem asf_assignable74_30 (w : World) : (ReflectliteType.relation "AssignableTo" ReflectliteType.assignableTo #[.agg #[.pointer (some ⟨1, 90, none⟩)], .iface 133 (.agg #[.pointer (some ⟨1, 25, none⟩)])]).run Tryd.prog w = .ok (.bool false) w := by kernel_rfl
theorem asf_assignable30 (w : World) : (ReflectliteType.relation "AssignableTo" ReflectliteType.assignableTo #[.agg #[.pointer (some ⟨1, 25, none⟩)], .iface 133 (.agg #[.pointer (some ⟨1, 25, none⟩)])]).run Tryd.prog w = .ok (.bool true) w := by kernel_rfl
theorem asf_valueOf30 (c : Int) (w : World) : (ReflectliteValue.unpack (.iface 25 (.int .i64 c))).run Tryd.prog w
    = .ok (.agg #[.pointer (some ⟨1, 25, none⟩), .pointer (some ⟨w.heap.size, 0, none⟩), .int .u64 130]) (w.alloc (.cells #[.int .i64 c] 25)) := by kernel_rfl
theorem asf_elemOf77 (w : World) : (Rtype.elem? 95).run Tryd.prog w = .ok (some 25) w := by kernel_rfl
theorem asf_mk30 (p : Addr) (w : World) : (ReflectliteValue.mk 25 p ReflectliteValue.flagAddr).run Tryd.prog w = .ok (.agg #[.pointer (some ⟨1, 25, none⟩), .pointer (some p), .int .u64 386]) w := by kernel_rfl
theorem asf_direct30 (w : World) : (Rtype.directlyAssignable 25 25).run Tryd.prog w = .ok true w := by kernel_rfl
theorem asf_parts77 (a : Addr) (w : World) : (ReflectliteValue.parts (.agg #[.pointer (some ⟨1, 95, none⟩), .pointer (some a), .int .u64 150])).run Tryd.prog w = .ok (some (95, a, 150)) w := by kernel_rfl
theorem asf_isNil77 (a p : Addr) (W : World) (ha : W.cell? a = some (.pointer (some p))) :
    (ReflectliteValue.method (ReflectliteValue.valueError "reflectlite.Value.IsNil" 0) ReflectliteValue.isNil #[.agg #[.pointer (some ⟨1, 95, none⟩), .pointer (some a), .int .u64 150]]).run Tryd.prog W = .ok (.bool false) W := by
  rw [rlm]
  simp only [Sem.run_bind, asf_parts77, Result.andThen]
  simp [ReflectliteValue.isNil, loadVar, isAgg, underlying, Tryd.underlying95, ha, Result.andThen]
theorem asf_elemV77 (a p : Addr) (W : World) (ha : W.cell? a = some (.pointer (some p))) :
    (ReflectliteValue.method (ReflectliteValue.valueError "reflectlite.Value.Elem" 0) ReflectliteValue.elem #[.agg #[.pointer (some ⟨1, 95, none⟩), .pointer (some a), .int .u64 150]]).run Tryd.prog W
      = .ok (.agg #[.pointer (some ⟨1, 25, none⟩), .pointer (some p), .int .u64 386]) W := by
  rw [rlm]
  simp only [Sem.run_bind, asf_parts77, Result.andThen]
  simp [ReflectliteValue.elem, loadVar, isAgg, underlying, Tryd.underlying95, ha, Result.andThen, asf_elemOf77, asf_mk30]
theorem asf_parts30a (a : Addr) (w : World) : (ReflectliteValue.parts (.agg #[.pointer (some ⟨1, 25, none⟩), .pointer (some a), .int .u64 386])).run Tryd.prog w = .ok (some (25, a, 386)) w := by kernel_rfl
theorem asf_parts30 (a : Addr) (w : World) : (ReflectliteValue.parts (.agg #[.pointer (some ⟨1, 25, none⟩), .pointer (some a), .int .u64 130])).run Tryd.prog w = .ok (some (25, a, 130)) w := by kernel_rfl
theorem asf_set30 (ta b : Addr) (c : Int) (old : Value) (W : World) (hb : W.cell? b = some (.int .i64 c)) (ht : W.cell? ta = some old) (hf : W.frozen? ta = false) :
    (ReflectliteValue.set #[.agg #[.pointer (some ⟨1, 25, none⟩), .pointer (some ta), .int .u64 386], .agg #[.pointer (some ⟨1, 25, none⟩), .pointer (some b), .int .u64 130]]).run Tryd.prog W
      = .ok (.tuple #[]) (W.setCell ta (.int .i64 c)) := by
  rw [rls]
  simp only [Sem.run_bind, asf_parts30a, asf_parts30, Result.andThen]
  simp [ReflectliteValue.flagAddr, loadVar, isAgg, underlying, Tryd.underlying25, hb, Result.andThen, asf_direct30, storeVar, Value.cells, storeCells, Addr.add]
  rw [run_store Tryd.prog W ta _ _ (by rfl)]
  simp [ht, hf]
theorem asf_methodUnwrap (h : Value) (w : World) : (Go.method 292 90 h "Unwrap").run Tryd.prog w = .ok (153, h) w := by kernel_rfl
theorem asf_no114 (v : Value) (w : World) : (Instr.typeAssert (.iface 90 v) 85 138 true).run Tryd.prog w = .ok (.tuple #[.nilIface, .bool false]) w := run_typeAssert_lacksB Tryd.underlying138 (by kernel_rfl) (by kernel_rfl) v 85 w
theorem asf_yes117 (v : Value) (w : World) : (Instr.typeAssert (.iface 90 v) 85 141 true).run Tryd.prog w = .ok (.tuple #[.iface 90 v, .bool true]) w := run_typeAssert_hasB Tryd.underlying141 (by kernel_rfl) v 85 w
set_option maxRecDepth 100000 in
set_option maxHeartbeats 8000000 in
theorem as_errno (F : Nat) (c : Int) (t : Addr) (old : Value) (w : World) (hg : w.cell? ⟨0, 0, none⟩ = some (.iface 133 (.agg #[.pointer (some ⟨1, 85, none⟩)]))) (ht0 : w.cell? t = some old) (hf0 : w.frozen? t = false)
    (hw0 : w.cell? ⟨F, 1, none⟩ = some (.iface 25 (.int .i64 c))) :
    Calls Tryd.prog 73 #[.iface 90 (.pointer (some ⟨F, 0, none⟩)), .iface 95 (.pointer (some t))] w fun ev w' => ev = .returned (.bool true) ∧ w' = ((((w.alloc (.cells #[.pointer (some t)] 95)).alloc (.cells #[.pointer (some ⟨1, 95, none⟩), .pointer (some ⟨w.heap.size, 0, none⟩), .int .u64 150] 110)).alloc (.cells #[.pointer (some ⟨1, 95, none⟩), .pointer (some ⟨w.heap.size, 0, none⟩), .int .u64 150] 110)).alloc (.cells #[.int .i64 c] 25)).setCell t (.int .i64 c) := by
  have h6 := @run_callFunc_extern Tryd.prog 89 _ (fun args => ReflectliteValue.unpack (args.getD 0 (.tuple #[]))) Tryd.func89 (by kernel_rfl) (by kernel_rfl) (by kernel_rfl) (by kernel_rfl)
  have h7 := @run_callFunc_extern Tryd.prog 90 _ (ReflectliteValue.methodAny (ReflectliteValue.valueError "reflectlite.Value.Type" 0) (fun t _ _ _ => ReflectliteType.toType t)) Tryd.func90 (by kernel_rfl) (by kernel_rfl) (by kernel_rfl) (by kernel_rfl)
  have h8 := @run_callFunc_extern Tryd.prog 91 _ (ReflectliteValue.method (ReflectliteValue.valueError "reflectlite.Value.IsNil" 0) ReflectliteValue.isNil) Tryd.func91 (by kernel_rfl) (by kernel_rfl) (by kernel_rfl) (by kernel_rfl)
  have h27 := @run_callFunc_extern Tryd.prog 147 _ (ReflectliteType.abiMethod fun t => do pure (.int .u8 (← Rtype.kind t))) Tryd.func147 (by kernel_rfl) (by kernel_rfl) (by kernel_rfl) (by kernel_rfl)
  have h37 := @run_callFunc_extern Tryd.prog 160 _ (ReflectliteType.method ReflectliteType.elem) Tryd.func160 (by kernel_rfl) (by kernel_rfl) (by kernel_rfl) (by kernel_rfl)
  have h38 := @run_callFunc_extern Tryd.prog 161 _ (ReflectliteType.relation "Implements" ReflectliteType.implements_) Tryd.func161 (by kernel_rfl) (by kernel_rfl) (by kernel_rfl) (by kernel_rfl)
  have h10 := @run_callFunc_extern Tryd.prog 109 _ ReflectliteType.typeOf Tryd.func109 (by kernel_rfl) (by kernel_rfl) (by kernel_rfl) (by kernel_rfl)
  have h35 := @run_callFunc_extern Tryd.prog 158 _ (ReflectliteType.relation "AssignableTo" ReflectliteType.assignableTo) Tryd.func158 (by kernel_rfl) (by kernel_rfl) (by kernel_rfl) (by kernel_rfl)
  have h11 := @run_callFunc_extern Tryd.prog 110 _ (ReflectliteValue.method (ReflectliteValue.valueError "reflectlite.Value.Elem" 0) ReflectliteValue.elem) Tryd.func110 (by kernel_rfl) (by kernel_rfl) (by kernel_rfl) (by kernel_rfl)
  have h12 := @run_callFunc_extern Tryd.prog 111 _ ReflectliteValue.set Tryd.func111 (by kernel_rfl) (by kernel_rfl) (by kernel_rfl) (by kernel_rfl)
  have tO := asf_typeOf74
  have tO2 := asf_typeOf30
  have mA := asf_methodAssignableTo
  have a25 := asf_assignable74_30
  have a30 := asf_assignable30
  have v25 := asf_valueOf30
  have f6 := asf_valueOf77
  have f7 := asf_type77
  have mK := asf_methodKind
  have mE := asf_methodElem
  have mI := asf_methodImplements
  have mU := asf_methodUnwrap
  have n114 := asf_no114
  have y117 := asf_yes117
  have k27 := asf_kind77
  have k25 := asf_kind30
  have e27 := asf_elem77
  have i25 := asf_implements30
  have n8 := asf_isNil77 ⟨w.heap.size, 0, none⟩ t ((w.alloc (.cells #[.pointer (some t)] 95)).alloc (.cells #[.pointer (some ⟨1, 95, none⟩), .pointer (some ⟨w.heap.size, 0, none⟩), .int .u64 150] 110)) (by simp)
  have hlt : 0 < w.heap.size := by
    rcases Nat.eq_zero_or_pos w.heap.size with h0 | h
    · simp [World.cell?, h0] at hg
    · exact h
  have hlF : F < w.heap.size := Go.block_lt_of_cell hw0
  have hg2 : ((w.alloc (.cells #[.pointer (some t)] 95)).alloc (.cells #[.pointer (some ⟨1, 95, none⟩), .pointer (some ⟨w.heap.size, 0, none⟩), .int .u64 150] 110)).cell? ⟨0, 0, none⟩ = some (.iface 133 (.agg #[.pointer (some ⟨1, 85, none⟩)])) := by
    rw [World.cell?_alloc_lt _ _ ⟨0, 0, none⟩ (by simp), World.cell?_alloc_lt _ _ ⟨0, 0, none⟩ hlt]; exact hg
  have htl : t.block < w.heap.size := by
    rcases Nat.lt_or_ge t.block w.heap.size with h | h
    · exact h
    · simp [World.cell?, Array.getElem?_eq_none h] at ht0
  generalize hW3 : ((w.alloc (.cells #[.pointer (some t)] 95)).alloc (.cells #[.pointer (some ⟨1, 95, none⟩), .pointer (some ⟨w.heap.size, 0, none⟩), .int .u64 150] 110)).alloc (.cells #[.pointer (some ⟨1, 95, none⟩), .pointer (some ⟨w.heap.size, 0, none⟩), .int .u64 150] 110) = W3
  have hw3 : W3.cell? ⟨F, 1, none⟩ = some (.iface 25 (.int .i64 c)) := by
    rw [← hW3, World.cell?_alloc_lt _ _ ⟨F, 1, none⟩ (by simp; omega), World.cell?_alloc_lt _ _ ⟨F, 1, none⟩ (by simp; omega), World.cell?_alloc_lt _ _ ⟨F, 1, none⟩ hlF]; exact hw0
  have hsz3 : W3.heap.size = w.heap.size + 1 + 1 + 1 := by rw [← hW3]; simp
  have el := asf_elemV77 ⟨w.heap.size, 0, none⟩ t W3 (by rw [← hW3, World.cell?_alloc_lt _ _ ⟨w.heap.size, 0, none⟩ (by simp <;> omega), World.cell?_alloc_lt _ _ ⟨w.heap.size, 0, none⟩ (by simp)]; simp)
  have st := asf_set30 t ⟨w.heap.size + 1 + 1 + 1, 0, none⟩ c old (W3.alloc (.cells #[.int .i64 c] 25))
    (by rw [World.cell?_alloc_at _ _ _ _ (by simp [hsz3])]; rfl)
    (by rw [← hW3, World.cell?_alloc_lt _ _ t (by simp; omega), World.cell?_alloc_lt _ _ t (by simp; omega), World.cell?_alloc_lt _ _ t (by simp; omega), World.cell?_alloc_lt _ _ t htl]; exact ht0)
    (by rw [← hW3, World.frozen?_alloc_old _ _ t (by simp; omega), World.frozen?_alloc_old _ _ t (by simp; omega), World.frozen?_alloc_old _ _ t (by simp; omega), World.frozen?_alloc_old _ _ t (Nat.ne_of_lt htl)]; exact hf0)
  rw [← hW3] at hw3 el st ⊢
  clear hW3 hsz3
  go_enter Tryd.func73, Tryd.ntmps73
  go_wp2
  refine wp_loop_rounds 2 ?_
  rw [rounds_succ]
  go_wp2
  rw [rounds_succ]
  go_wp2
  go_ret
  exact ⟨rfl, rfl⟩
end
theorem as_hit_k (F b : Nat) (old : Value) (w : World) (hG : HG w) (hb : w.heap[b]? = some (.cells #[old] 90 (0, 0))) :
    Calls Tryd.prog 73 #[.iface 90 (.pointer (some ⟨F, 0, none⟩)), .iface 94 (.pointer (some ⟨b, 0, none⟩))] w fun ev w' => ev = .returned (.bool true) ∧ KeepBut w w' b none ∧ (∀ n, n ≤ b → Below n w w') ∧ w'.heap[b]? = some (.cells #[.pointer (some ⟨F, 0, none⟩)] 90 (0, 0)) := by
  refine (as_hit ⟨F, 0, none⟩ ⟨b, 0, none⟩ old w hG ((blk_cell hb 0).trans rfl) (blk_frozen hb 0)).mono ?_
  rintro ev w' ⟨rfl, rfl⟩
  exact ⟨rfl, KeepBut.set_ (keep_alloc (keep_alloc (keep_alloc (keep_alloc (KeepBut.refl _ _ _) _) _) _) _) 0 _, fun n hn => (((((Below.refl n w).alloc (by have := blk_lt hb; omega) _).alloc (by have := blk_lt hb; simp <;> omega) _).alloc (by have := blk_lt hb; simp <;> omega) _).alloc (by have := blk_lt hb; simp <;> omega) _).setCell (p := ⟨b, 0, none⟩) hn _, by have := blk_set (blk_alloc (blk_alloc (blk_alloc (blk_alloc hb (.cells #[.pointer (some ⟨b, 0, none⟩)] 94)) (.cells #[.pointer (some ⟨1, 94, none⟩), .pointer (some ⟨w.heap.size, 0, none⟩), .int .u64 150] 110)) (.cells #[.pointer (some ⟨1, 94, none⟩), .pointer (some ⟨w.heap.size, 0, none⟩), .int .u64 150] 110)) (.cells #[.pointer (some ⟨F, 0, none⟩)] 90)) 0 (.pointer (some ⟨F, 0, none⟩)); simpa using this⟩
theorem as_errno_k (F b : Nat) (c : Int) (old : Value) (w : World) (hG : HG w) (hb : w.heap[b]? = some (.cells #[old] 25 (0, 0))) (hF : w.cell? ⟨F, 1, none⟩ = some (.iface 25 (.int .i64 c))) :
    Calls Tryd.prog 73 #[.iface 90 (.pointer (some ⟨F, 0, none⟩)), .iface 95 (.pointer (some ⟨b, 0, none⟩))] w fun ev w' => ev = .returned (.bool true) ∧ KeepBut w w' b none ∧ (∀ n, n ≤ b → Below n w w') ∧ w'.heap[b]? = some (.cells #[.int .i64 c] 25 (0, 0)) := by
  refine (as_errno F c ⟨b, 0, none⟩ old w hG ((blk_cell hb 0).trans rfl) (blk_frozen hb 0) hF).mono ?_
  rintro ev w' ⟨rfl, rfl⟩
  exact ⟨rfl, KeepBut.set_ (keep_alloc (keep_alloc (keep_alloc (keep_alloc (KeepBut.refl _ _ _) _) _) _) _) 0 _, fun n hn => (((((Below.refl n w).alloc (by have := blk_lt hb; omega) _).alloc (by have := blk_lt hb; simp <;> omega) _).alloc (by have := blk_lt hb; simp <;> omega) _).alloc (by have := blk_lt hb; simp <;> omega) _).setCell (p := ⟨b, 0, none⟩) hn _, by have := blk_set (blk_alloc (blk_alloc (blk_alloc (blk_alloc hb (.cells #[.pointer (some ⟨b, 0, none⟩)] 95)) (.cells #[.pointer (some ⟨1, 95, none⟩), .pointer (some ⟨w.heap.size, 0, none⟩), .int .u64 150] 110)) (.cells #[.pointer (some ⟨1, 95, none⟩), .pointer (some ⟨w.heap.size, 0, none⟩), .int .u64 150] 110)) (.cells #[.int .i64 c] 25)) 0 (.int .i64 c); simpa using this⟩
theorem results_cellint {P : Program} {fn : Func} {p u : Tmp} {ty : TypeId} (h : fn.results = #[.cell p ty, .tmp u]) (tmps : Array Value) (w : World) (g : Nat) (v : Value)
    (hp : tmps.getD p undef = .pointer (some ⟨g, 0, none⟩)) (hc : w.cell? ⟨g, 0, none⟩ = some v) (hu : P.underlying ty = some (.int .i64)) :
    (results fn tmps).run P w = .ok (.tuple #[v, tmps.getD u undef]) w := by
  have hp' : tmps[p]?.getD undef = .pointer (some ⟨g, 0, none⟩) := by simpa using hp
  simp [results, h, hp', asAddr, loadVar, isAgg, underlying, hu, hc, Result.andThen]
def num_Reader_Err.f (s0_0 : List Int) (s0_1 : Int) (s0_2 : Int) (s0_3 : Int) : Option (Int × Int × Int × Int × Int) := some (s0_2, s0_3, s0_1, s0_2, s0_3)
set_option maxRecDepth 100000 in
set_option maxHeartbeats 8000000 in
theorem num_Reader_Err.calls (g : Nat) (s0_0 : List Int) (s0_1 : Int) (s0_2 : Int) (s0_3 : Int) (r1 r2 : Int) (r3 r4 r5 : Int) (w0 w : World) (hI : IsS87 w0 w g s0_0 s0_1 s0_2 s0_3) (hB : Below w0.heap.size w0 w) (h : num_Reader_Err.f s0_0 s0_1 s0_2 s0_3 = some (r1, r2, r3, r4, r5)) :
    Calls Tryd.prog 39 #[.pointer (some ⟨g, 0, none⟩)] w fun e w' => e = .returned (.tuple #[.int .i64 r1, .int .i64 r2]) ∧ IsS87 w0 w' g s0_0 r3 r4 r5 ∧ Below w0.heap.size w0 w' ∧ KeepBut w w' g none := by
  simp only [num_Reader_Err.f, Option.some.injEq, Prod.mk.injEq] at h
  obtain ⟨rfl, rfl, rfl, rfl, rfl⟩ := h
  have hI0 := hI
  have hlt := hI.lt
  obtain ⟨A, c, ev, hb, hc0, hc1, hc2, hfz, hr, hf⟩ := hI.open
  obtain ⟨_, _, _, _, _, _, _, hG0⟩ := id hI
  have hG := hG0.below hB
  have e1 : ∀ w, (binOp BinOp.eql 50 (.pointer (some ⟨g, 0, none⟩)) (.pointer none)).run Tryd.prog w = .ok (.bool false) w := fun w => by kernel_rfl
  have hA1 : Below w.heap.size w ((w.alloc (.cells #[.int .i64 0] 25)).alloc (.cells #[.pointer none] 90)) := below_alloc (below_alloc (Below.refl _ _) _) _
  have hb0 : ((w.alloc (.cells #[.int .i64 0] 25)).alloc (.cells #[.pointer none] 90)).heap[w.heap.size]? = some (.cells #[.int .i64 0] 25 (0, 0)) := blk_alloc (by simpa using heap_alloc_new w (.cells #[.int .i64 0] 25)) _
  have hb1 : ((w.alloc (.cells #[.int .i64 0] 25)).alloc (.cells #[.pointer none] 90)).heap[w.heap.size + 1]? = some (.cells #[.pointer none] 90 (0, 0)) := by simpa using heap_alloc_new (w.alloc (.cells #[.int .i64 0] 25)) (.cells #[.pointer none] 90)
  have hc2A : ((w.alloc (.cells #[.int .i64 0] 25)).alloc (.cells #[.pointer none] 90)).cell? ⟨g, 2, none⟩ = some ev := (blk_cell (blk_below hb hA1) 2).trans rfl
  rcases hf with ⟨rfl, rfl, rfl⟩ | ⟨h0, F, rfl, hF, hFg⟩
  · go_enter Tryd.func39, Tryd.ntmps39
    go_wp2_with (go_at_call 73; refine (as_nil _ _).mono ?_; rintro ev w1 ⟨rfl, rfl⟩)
    refine bodyPost_ret (results_cellint rfl _ _ w.heap.size _ rfl ((blk_cell hb0 0).trans rfl) Tryd.underlying25) rfl ?_
    exact ⟨rfl, hI0.below hA1, below_step hB hA1, KeepBut.of_below hA1 g none⟩
  · have hF0 : w.cell? ⟨F, 1, none⟩ = some (.iface 25 (.int .i64 s0_2)) := (blk_cell hF 1).trans rfl
    have hG1 := hG.below hA1
    go_enter Tryd.func39, Tryd.ntmps39
    go_wp2_with (first
      | (go_at_call 73; with_reducible refine (as_hit_k F (w.heap.size + 1) (.pointer none) _ hG1 hb1).mono ?_; rintro ev w1 ⟨rfl, hK1, hB1n, hb11⟩
         have hb01 := (hK1.2 w.heap.size (blk_lt hb0) (by omega) (by simp)).trans hb0
         have hFF := (hK1.2 F (Nat.lt_of_lt_of_le (blk_lt hF) hA1.size) (by have := blk_lt hF; omega) (by simp)).trans (blk_below hF hA1)
         have hG2 : HG w1 := hG.heap (fun k hk => (hK1.2 k (Nat.lt_of_lt_of_le hk hA1.size) (by omega) (by simp)).trans (hA1.block k hk))
         have hbc11 := (blk_cell hb11 0).trans rfl)
      | (go_at_call 73; with_reducible refine (as_errno_k F w.heap.size s0_2 (.int .i64 0) _ hG2 hb01 ((blk_cell hFF 1).trans rfl)).mono ?_; rintro ev w2 ⟨rfl, hK2, hB2n, hb02⟩
         have hb12 := (hK2.2 (w.heap.size + 1) (blk_lt hb11) (by omega) (by simp)).trans hb11
         have hFF2 := (hK2.2 F (blk_lt hFF) (by have := blk_lt hF; omega) (by simp)).trans hFF
         have hbc02 := (blk_cell hb02 0).trans rfl
         have hbf02 := blk_frozen hb02 0
         have hbc12 := (blk_cell hb12 0).trans rfl
         have hFc := (blk_cell hFF2 0).trans rfl))
    have hBB := (hA1.trans (hB1n w.heap.size (by omega))).trans (hB2n w.heap.size (Nat.le_refl _))
    go_region
    all_goals go_wp2
    all_goals
      have hb03 := blk_set hb02 0 (.int .i64 s0_2)
      have hBC := (hBB.setCell (p := ⟨w.heap.size, 0, none⟩) (Nat.le_refl _) (.int .i64 s0_2)).drew
      refine bodyPost_ret (results_cellint rfl _ _ w.heap.size _ rfl ((blk_cell (blk_drew hb03) 0).trans rfl) Tryd.underlying25) rfl ?_
      exact ⟨rfl, hI0.below hBC, below_step hB hBC, KeepBut.of_below hBC g none⟩

end Go.Proofs.YtieddojplhmhgaaDoor.PTextsGets
