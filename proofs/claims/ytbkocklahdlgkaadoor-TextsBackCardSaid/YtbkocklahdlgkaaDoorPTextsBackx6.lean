/- WRITTEN BY A PROGRAM of this session (wip/tool: a turned copy of the printer), out of the translation: Lean functions with the answers of the Go functions, and the proofs that the Go code comes to them. -/
import Derived.Test.YtbkocklahdlgkaaDoorPTextsBackx0
import Derived.Test.YtbkocklahdlgkaaDoorPTextsBackx3
import Derived.Test.YtbkocklahdlgkaaDoorPTextsBackx4
namespace Go.Proofs.YtbkocklahdlgkaaDoor.PTextsBack
open Go.RowKit Go.Proofs.YtbkocklahdlgkaaDoorW.PrintWords Go.Proofs.YtbkocklahdlgkaaDoorW.PrintLast Go.Proofs.YtbkocklahdlgkaaDoorW.PrintMore
attribute [local go_sem] max2_int min2_int max_two min_two max_three min_three max_four min_four   -- for this text's walks alone
set_option linter.unusedVariables false
set_option linter.unusedSimpArgs false

/-! ### num_Reader_Fix: function 33 -/
def num_Reader_Fix.j0 : Nat → Int → Bool → List Int → Int → Int → Int → Option (Int × Int × Int × Int)
  | 0, _, _, _, _, _, _ => none
  | k + 1, x1, x12, x1000, x1001, x1002, x1003 => if x12 = true then ((num_Reader_ok.f x1000 x1001 x1002 x1003).bind fun bt212 => (if bt212.1 = true then ((num_Reader_Fail.f x1000 bt212.2.1 bt212.2.2.1 bt212.2.2.2 1).bind fun bt216 => (some (0, bt216.1, bt216.2.1, bt216.2.2))) else (some (0, bt212.2.1, bt212.2.2.1, bt212.2.2.2)))) else ((num_Reader_Take.f x1000 x1001 x1002 x1003 x1).bind fun bt219 => (if (bt219.1.length : Int) = 8 then (if 7 < (bt219.1.length : Int) then (if 6 < (bt219.1.length : Int) then (if 5 < (bt219.1.length : Int) then (if 4 < (bt219.1.length : Int) then (if 3 < (bt219.1.length : Int) then (if 2 < (bt219.1.length : Int) then (if 1 < (bt219.1.length : Int) then (if 0 < (bt219.1.length : Int) then (some (Go.bits .or .u64 (Go.bits .or .u64 (Go.bits .or .u64 (Go.bits .or .u64 (Go.bits .or .u64 (Go.bits .or .u64 (Go.bits .or .u64 (Go.bits .or .u64 0 (IntKind.u64.wrap ((IntKind.u64.wrap (rd bt219.1 7)) * 72057594037927936))) (IntKind.u64.wrap ((IntKind.u64.wrap (rd bt219.1 6)) * 281474976710656))) (IntKind.u64.wrap ((IntKind.u64.wrap (rd bt219.1 5)) * 1099511627776))) (IntKind.u64.wrap ((IntKind.u64.wrap (rd bt219.1 4)) * 4294967296))) (IntKind.u64.wrap ((IntKind.u64.wrap (rd bt219.1 3)) * 16777216))) (IntKind.u64.wrap ((IntKind.u64.wrap (rd bt219.1 2)) * 65536))) (IntKind.u64.wrap ((IntKind.u64.wrap (rd bt219.1 1)) * 256))) (IntKind.u64.wrap (rd bt219.1 0)), bt219.2.1, bt219.2.2.1, bt219.2.2.2)) else (none)) else (none)) else (none)) else (none)) else (none)) else (none)) else (none)) else (none)) else (if (bt219.1.length : Int) = 7 then (if 6 < (bt219.1.length : Int) then (if 5 < (bt219.1.length : Int) then (if 4 < (bt219.1.length : Int) then (if 3 < (bt219.1.length : Int) then (if 2 < (bt219.1.length : Int) then (if 1 < (bt219.1.length : Int) then (if 0 < (bt219.1.length : Int) then (some (Go.bits .or .u64 (Go.bits .or .u64 (Go.bits .or .u64 (Go.bits .or .u64 (Go.bits .or .u64 (Go.bits .or .u64 (Go.bits .or .u64 0 (IntKind.u64.wrap ((IntKind.u64.wrap (rd bt219.1 6)) * 281474976710656))) (IntKind.u64.wrap ((IntKind.u64.wrap (rd bt219.1 5)) * 1099511627776))) (IntKind.u64.wrap ((IntKind.u64.wrap (rd bt219.1 4)) * 4294967296))) (IntKind.u64.wrap ((IntKind.u64.wrap (rd bt219.1 3)) * 16777216))) (IntKind.u64.wrap ((IntKind.u64.wrap (rd bt219.1 2)) * 65536))) (IntKind.u64.wrap ((IntKind.u64.wrap (rd bt219.1 1)) * 256))) (IntKind.u64.wrap (rd bt219.1 0)), bt219.2.1, bt219.2.2.1, bt219.2.2.2)) else (none)) else (none)) else (none)) else (none)) else (none)) else (none)) else (none)) else (if (bt219.1.length : Int) = 6 then (if 5 < (bt219.1.length : Int) then (if 4 < (bt219.1.length : Int) then (if 3 < (bt219.1.length : Int) then (if 2 < (bt219.1.length : Int) then (if 1 < (bt219.1.length : Int) then (if 0 < (bt219.1.length : Int) then (some (Go.bits .or .u64 (Go.bits .or .u64 (Go.bits .or .u64 (Go.bits .or .u64 (Go.bits .or .u64 (Go.bits .or .u64 0 (IntKind.u64.wrap ((IntKind.u64.wrap (rd bt219.1 5)) * 1099511627776))) (IntKind.u64.wrap ((IntKind.u64.wrap (rd bt219.1 4)) * 4294967296))) (IntKind.u64.wrap ((IntKind.u64.wrap (rd bt219.1 3)) * 16777216))) (IntKind.u64.wrap ((IntKind.u64.wrap (rd bt219.1 2)) * 65536))) (IntKind.u64.wrap ((IntKind.u64.wrap (rd bt219.1 1)) * 256))) (IntKind.u64.wrap (rd bt219.1 0)), bt219.2.1, bt219.2.2.1, bt219.2.2.2)) else (none)) else (none)) else (none)) else (none)) else (none)) else (none)) else (if (bt219.1.length : Int) = 5 then (if 4 < (bt219.1.length : Int) then (if 3 < (bt219.1.length : Int) then (if 2 < (bt219.1.length : Int) then (if 1 < (bt219.1.length : Int) then (if 0 < (bt219.1.length : Int) then (some (Go.bits .or .u64 (Go.bits .or .u64 (Go.bits .or .u64 (Go.bits .or .u64 (Go.bits .or .u64 0 (IntKind.u64.wrap ((IntKind.u64.wrap (rd bt219.1 4)) * 4294967296))) (IntKind.u64.wrap ((IntKind.u64.wrap (rd bt219.1 3)) * 16777216))) (IntKind.u64.wrap ((IntKind.u64.wrap (rd bt219.1 2)) * 65536))) (IntKind.u64.wrap ((IntKind.u64.wrap (rd bt219.1 1)) * 256))) (IntKind.u64.wrap (rd bt219.1 0)), bt219.2.1, bt219.2.2.1, bt219.2.2.2)) else (none)) else (none)) else (none)) else (none)) else (none)) else (if (bt219.1.length : Int) = 4 then (if 3 < (bt219.1.length : Int) then (if 2 < (bt219.1.length : Int) then (if 1 < (bt219.1.length : Int) then (if 0 < (bt219.1.length : Int) then (some (Go.bits .or .u64 (Go.bits .or .u64 (Go.bits .or .u64 (Go.bits .or .u64 0 (IntKind.u64.wrap ((IntKind.u64.wrap (rd bt219.1 3)) * 16777216))) (IntKind.u64.wrap ((IntKind.u64.wrap (rd bt219.1 2)) * 65536))) (IntKind.u64.wrap ((IntKind.u64.wrap (rd bt219.1 1)) * 256))) (IntKind.u64.wrap (rd bt219.1 0)), bt219.2.1, bt219.2.2.1, bt219.2.2.2)) else (none)) else (none)) else (none)) else (none)) else (if (bt219.1.length : Int) = 3 then (if 2 < (bt219.1.length : Int) then (if 1 < (bt219.1.length : Int) then (if 0 < (bt219.1.length : Int) then (some (Go.bits .or .u64 (Go.bits .or .u64 (Go.bits .or .u64 0 (IntKind.u64.wrap ((IntKind.u64.wrap (rd bt219.1 2)) * 65536))) (IntKind.u64.wrap ((IntKind.u64.wrap (rd bt219.1 1)) * 256))) (IntKind.u64.wrap (rd bt219.1 0)), bt219.2.1, bt219.2.2.1, bt219.2.2.2)) else (none)) else (none)) else (none)) else (if (bt219.1.length : Int) = 2 then (if 1 < (bt219.1.length : Int) then (if 0 < (bt219.1.length : Int) then (some (Go.bits .or .u64 (Go.bits .or .u64 0 (IntKind.u64.wrap ((IntKind.u64.wrap (rd bt219.1 1)) * 256))) (IntKind.u64.wrap (rd bt219.1 0)), bt219.2.1, bt219.2.2.1, bt219.2.2.2)) else (none)) else (none)) else (if (bt219.1.length : Int) = 1 then (if 0 < (bt219.1.length : Int) then (some (Go.bits .or .u64 0 (IntKind.u64.wrap (rd bt219.1 0)), bt219.2.1, bt219.2.2.1, bt219.2.2.2)) else (none)) else (some (0, bt219.2.1, bt219.2.2.1, bt219.2.2.2)))))))))))
def num_Reader_Fix.f (k : Nat) (s0_0 : List Int) (s0_1 : Int) (s0_2 : Int) (s0_3 : Int) (a1 : Int) : Option (Int × Int × Int × Int) := if a1 < 0 then (num_Reader_Fix.j0 k a1 true s0_0 s0_1 s0_2 s0_3) else (num_Reader_Fix.j0 k a1 (decide (a1 > 8)) s0_0 s0_1 s0_2 s0_3)
set_option maxHeartbeats 8000000 in
set_option maxRecDepth 100000 in
theorem num_Reader_Fix.calls (k : Nat) (g : Nat) (s0_0 : List Int) (s0_1 : Int) (s0_2 : Int) (s0_3 : Int) (a1 : Int) (r1 : Int) (r2 : Int) (r3 : Int) (r4 : Int) (w0 w : World) (hI : IsS127 w0 w g s0_0 s0_1 s0_2 s0_3) (hB : Below w0.heap.size w0 w) (h : num_Reader_Fix.f k s0_0 s0_1 s0_2 s0_3 a1 = some (r1, r2, r3, r4)) :
    Calls Tryd.prog 33 #[.pointer (some ⟨g, 0, none⟩), .int .i64 a1] w fun e w' => e = .returned (.int .u64 r1) ∧ IsS127 w0 w' g s0_0 r2 r3 r4 ∧ Below w0.heap.size w0 w' ∧ KeepBut w w' g none := by
  have HI0 := Aside0.mk hI
  have HK := Aside0.mk (KeepBut.refl w g none)
  have HL := Aside0.mk hB.size
  clear hI
  have HW0 := Aside0.mk hB.size
  have HB := Aside0.mk hB
  clear hB
  have H : (if a1 < 0 then (num_Reader_Fix.j0 k a1 true s0_0 s0_1 s0_2 s0_3) else (num_Reader_Fix.j0 k a1 (decide (a1 > 8)) s0_0 s0_1 s0_2 s0_3)) = some (r1, r2, r3, r4) := h
  clear h
  have HC3 := Aside0.mk H
  clear H
  go_enter Tryd.func33, Tryd.ntmps33
  go_upto_region 1 with (fail)
  go_cut [12] (fun v12 wc => ∃ (kq : Nat) (x12_2 : Bool), v12 = .bool x12_2 ∧ Aside0 (num_Reader_Fix.j0 kq a1 x12_2 s0_0 s0_1 s0_2 s0_3 = some (r1, r2, r3, r4)) ∧ Aside0 (kq ≤ k) ∧ Aside0 (IsS127 w0 wc g s0_0 s0_1 s0_2 s0_3) ∧ Aside0 (KeepBut w wc g none) ∧ Aside0 (Below w0.heap.size w0 wc))
  case first =>
    have H := HC3.out
    clear HC3
    by_cases c4 : a1 < 0
    · rw [if_pos c4] at H
      have c4b0 : decide (a1 < 0) = true := decide_eq_true c4
      clear c4
      (first | rw [c4b0] | (simp only [i64_w, i32_w]; rw [c4b0]) | skip)
      have H' := Aside0.mk H
      clear H
      go_wp2
      go_meet
      case rel => exact ⟨_, (true), (by first | rfl | (simp; done) | (simp [*]; done)), H', ⟨by first | omega | exact Nat.le_refl _⟩, ⟨by repeat (first | (with_reducible first | exact HI0.out | apply IsS127.alloc | apply IsS127.drewN | apply IsS127.drew | apply IsS127.set_1 | apply IsS127.set_2 | apply IsS127.set_3) | exact HI0.out)⟩, ⟨by repeat (first | (with_reducible first | exact HK.out | apply KeepBut.set_ | apply keep_drewN | apply keep_drew | apply keep_alloc) | exact HK.out)⟩, ⟨by repeat (first | (with_reducible first | exact HB.out | apply below_alloc | apply pw_below_drewN | apply below_drew1 | refine below_set ?_ (IsS127.ge HI0.out)) | exact HB.out)⟩⟩
    · rw [if_neg c4] at H
      have c4b0 : decide (a1 < 0) = false := decide_eq_false c4
      clear c4
      (first | rw [c4b0] | (simp only [i64_w, i32_w]; rw [c4b0]) | skip)
      have H' := Aside0.mk H
      clear H
      go_wp2
      go_meet
      case rel => exact ⟨_, (decide (a1 > 8)), (by first | rfl | (simp; done) | (simp [*]; done)), H', ⟨by first | omega | exact Nat.le_refl _⟩, ⟨by repeat (first | (with_reducible first | exact HI0.out | apply IsS127.alloc | apply IsS127.drewN | apply IsS127.drew | apply IsS127.set_1 | apply IsS127.set_2 | apply IsS127.set_3) | exact HI0.out)⟩, ⟨by repeat (first | (with_reducible first | exact HK.out | apply KeepBut.set_ | apply keep_drewN | apply keep_drew | apply keep_alloc) | exact HK.out)⟩, ⟨by repeat (first | (with_reducible first | exact HB.out | apply below_alloc | apply pw_below_drewN | apply below_drew1 | refine below_set ?_ (IsS127.ge HI0.out)) | exact HB.out)⟩⟩
  case rest =>
    clear HC3
    try clear p2
    try clear c3
    try clear c4
    try clear c4b0
    obtain ⟨kq, x12_2, rfl, HA, HJ2, HI0, HK, HB⟩ := hcut
    cases kq with
    | zero => exact absurd HA.out (by simp [num_Reader_Fix.j0])
    | succ kj2 =>
      have H := HA.out
      clear HA
      simp only [num_Reader_Fix.j0] at H
      by_cases c5 : x12_2 = true
      · subst c5
        have H1 : ((num_Reader_ok.f s0_0 s0_1 s0_2 s0_3).bind fun bt212 => (if bt212.1 = true then ((num_Reader_Fail.f s0_0 bt212.2.1 bt212.2.2.1 bt212.2.2.2 1).bind fun bt216 => (some (0, bt216.1, bt216.2.1, bt216.2.2))) else (some (0, bt212.2.1, bt212.2.2.1, bt212.2.2.2)))) = some (r1, r2, r3, r4) := by rw [if_pos rfl] at H; exact H
        clear H
        have H := H1
        clear H1
        replace H := Option.bind_eq_some_iff.mp H
        obtain ⟨⟨t212, t213, t214, t215⟩, A60, H⟩ := H
        replace H : (if t212 = true then ((num_Reader_Fail.f s0_0 t213 t214 t215 1).bind fun bt216 => (some (0, bt216.1, bt216.2.1, bt216.2.2))) else (some (0, t213, t214, t215))) = some (r1, r2, r3, r4) := H
        have A6 := Aside0.mk A60
        clear A60
        by_cases c7 : t212 = true
        · subst c7
          have H1 : ((num_Reader_Fail.f s0_0 t213 t214 t215 1).bind fun bt216 => (some (0, bt216.1, bt216.2.1, bt216.2.2))) = some (r1, r2, r3, r4) := by rw [if_pos rfl] at H; exact H
          clear H
          have H := H1
          clear H1
          replace H := Option.bind_eq_some_iff.mp H
          obtain ⟨⟨t216, t217, t218⟩, A80, H⟩ := H
          replace H : (some (0, t216, t217, t218)) = some (r1, r2, r3, r4) := H
          have A8 := Aside0.mk A80
          clear A80
          simp only [Option.some.injEq, Prod.mk.injEq] at H
          obtain ⟨rfl, rfl, rfl, rfl⟩ := H
          go_wp2_with (first | ((with_reducible refine gate_callee (f := 72) rfl ?_); refine goesL_ (some 14) rfl rfl Tryd.func72 (by kernel_rfl) rfl #[.pointer (some ⟨g, 0, none⟩)] rfl (by (try simp only [List.map_toArray, List.map_cons, List.map_nil]); first | done | rfl | (simp only [List.length_drop, List.length_take]; rfl)) ?_; (with_reducible refine (num_Reader_ok.calls g s0_0 s0_1 s0_2 s0_3 true t213 t214 t215 w0 _ ?side1 ?side2 A6.out).mono ?_); (case side1 => repeat (first | (with_reducible first | exact HI0.out | apply IsS127.alloc | apply IsS127.drewN | apply IsS127.drew | apply IsS127.set_1 | apply IsS127.set_2 | apply IsS127.set_3) | exact HI0.out)); (case side2 => repeat (first | (with_reducible first | exact HB.out | apply below_alloc | apply pw_below_drewN | apply below_drew1 | refine below_set ?_ (IsS127.ge HI0.out)) | exact HB.out)); rintro e w9 ⟨rfl, hi, hb, hk⟩; refine ⟨_, rfl, ?_⟩; have n0_ := Aside0.mk (KeepBut.trans (by repeat (first | (with_reducible first | exact HK.out | apply KeepBut.set_ | apply keep_drewN | apply keep_drew | apply keep_alloc) | exact HK.out)) hk (.inl rfl)); have n1_ := Aside0.mk (hb); have n2_ := Aside0.mk (hi); clear HK; clear HB; clear HI0; have HK := n0_; have HB := n1_; have HI0 := n2_; clear n0_ n1_ n2_; (try clear hb); (try clear hb2); (try clear hk); (try clear hi)) | ((with_reducible refine gate_callee (f := 34) rfl ?_); refine goesL_ (some 16) rfl rfl Tryd.func34 (by kernel_rfl) rfl #[.pointer (some ⟨g, 0, none⟩), .int .i64 1] rfl (by (try simp only [List.map_toArray, List.map_cons, List.map_nil]); first | done | rfl | (simp only [List.length_drop, List.length_take]; rfl)) ?_; (with_reducible refine (num_Reader_Fail.calls g s0_0 t213 t214 t215 1 t216 t217 t218 w0 _ ?side1 ?side2 A8.out).mono ?_); (case side1 => repeat (first | (with_reducible first | exact HI0.out | apply IsS127.alloc | apply IsS127.drewN | apply IsS127.drew | apply IsS127.set_1 | apply IsS127.set_2 | apply IsS127.set_3) | exact HI0.out)); (case side2 => repeat (first | (with_reducible first | exact HB.out | apply below_alloc | apply pw_below_drewN | apply below_drew1 | refine below_set ?_ (IsS127.ge HI0.out)) | exact HB.out)); rintro e w10 ⟨rfl, hi, hb, hk⟩; refine ⟨_, rfl, ?_⟩; have n0_ := Aside0.mk (KeepBut.trans (by repeat (first | (with_reducible first | exact HK.out | apply KeepBut.set_ | apply keep_drewN | apply keep_drew | apply keep_alloc) | exact HK.out)) hk (.inl rfl)); have n1_ := Aside0.mk (hb); have n2_ := Aside0.mk (hi); clear HK; clear HB; clear HI0; have HK := n0_; have HB := n1_; have HI0 := n2_; clear n0_ n1_ n2_; (try clear hb); (try clear hb2); (try clear hk); (try clear hi)))
          go_ret
          exact ⟨by first | rfl | (simp [errW_none, errW_some] <;> rfl) | (simp [*, errW_none, errW_some] <;> rfl), by repeat (first | (with_reducible first | exact HI0.out | apply IsS127.alloc | apply IsS127.drewN | apply IsS127.drew | apply IsS127.set_1 | apply IsS127.set_2 | apply IsS127.set_3) | exact HI0.out), by repeat (first | (with_reducible first | exact HB.out | apply below_alloc | apply pw_below_drewN | apply below_drew1 | refine below_set ?_ (IsS127.ge HI0.out)) | exact HB.out), by repeat (first | (with_reducible first | exact HK.out | apply KeepBut.set_ | apply keep_drewN | apply keep_drew | apply keep_alloc) | exact HK.out)⟩
        · replace c7 := Bool.eq_false_iff.mpr c7
          subst c7
          have H1 : (some (0, t213, t214, t215)) = some (r1, r2, r3, r4) := by rw [if_neg (show ¬ (false = true) by decide)] at H; exact H
          clear H
          have H := H1
          clear H1
          simp only [Option.some.injEq, Prod.mk.injEq] at H
          obtain ⟨rfl, rfl, rfl, rfl⟩ := H
          go_wp2_with (first | ((with_reducible refine gate_callee (f := 72) rfl ?_); refine goesL_ (some 14) rfl rfl Tryd.func72 (by kernel_rfl) rfl #[.pointer (some ⟨g, 0, none⟩)] rfl (by (try simp only [List.map_toArray, List.map_cons, List.map_nil]); first | done | rfl | (simp only [List.length_drop, List.length_take]; rfl)) ?_; (with_reducible refine (num_Reader_ok.calls g s0_0 s0_1 s0_2 s0_3 false t213 t214 t215 w0 _ ?side1 ?side2 A6.out).mono ?_); (case side1 => repeat (first | (with_reducible first | exact HI0.out | apply IsS127.alloc | apply IsS127.drewN | apply IsS127.drew | apply IsS127.set_1 | apply IsS127.set_2 | apply IsS127.set_3) | exact HI0.out)); (case side2 => repeat (first | (with_reducible first | exact HB.out | apply below_alloc | apply pw_below_drewN | apply below_drew1 | refine below_set ?_ (IsS127.ge HI0.out)) | exact HB.out)); rintro e w11 ⟨rfl, hi, hb, hk⟩; refine ⟨_, rfl, ?_⟩; have n0_ := Aside0.mk (KeepBut.trans (by repeat (first | (with_reducible first | exact HK.out | apply KeepBut.set_ | apply keep_drewN | apply keep_drew | apply keep_alloc) | exact HK.out)) hk (.inl rfl)); have n1_ := Aside0.mk (hb); have n2_ := Aside0.mk (hi); clear HK; clear HB; clear HI0; have HK := n0_; have HB := n1_; have HI0 := n2_; clear n0_ n1_ n2_; (try clear hb); (try clear hb2); (try clear hk); (try clear hi)))
          go_ret
          exact ⟨by first | rfl | (simp [errW_none, errW_some] <;> rfl) | (simp [*, errW_none, errW_some] <;> rfl), by repeat (first | (with_reducible first | exact HI0.out | apply IsS127.alloc | apply IsS127.drewN | apply IsS127.drew | apply IsS127.set_1 | apply IsS127.set_2 | apply IsS127.set_3) | exact HI0.out), by repeat (first | (with_reducible first | exact HB.out | apply below_alloc | apply pw_below_drewN | apply below_drew1 | refine below_set ?_ (IsS127.ge HI0.out)) | exact HB.out), by repeat (first | (with_reducible first | exact HK.out | apply KeepBut.set_ | apply keep_drewN | apply keep_drew | apply keep_alloc) | exact HK.out)⟩
      · replace c5 := Bool.eq_false_iff.mpr c5
        subst c5
        have H1 : ((num_Reader_Take.f s0_0 s0_1 s0_2 s0_3 a1).bind fun bt219 => (if (bt219.1.length : Int) = 8 then (if 7 < (bt219.1.length : Int) then (if 6 < (bt219.1.length : Int) then (if 5 < (bt219.1.length : Int) then (if 4 < (bt219.1.length : Int) then (if 3 < (bt219.1.length : Int) then (if 2 < (bt219.1.length : Int) then (if 1 < (bt219.1.length : Int) then (if 0 < (bt219.1.length : Int) then (some (Go.bits .or .u64 (Go.bits .or .u64 (Go.bits .or .u64 (Go.bits .or .u64 (Go.bits .or .u64 (Go.bits .or .u64 (Go.bits .or .u64 (Go.bits .or .u64 0 (IntKind.u64.wrap ((IntKind.u64.wrap (rd bt219.1 7)) * 72057594037927936))) (IntKind.u64.wrap ((IntKind.u64.wrap (rd bt219.1 6)) * 281474976710656))) (IntKind.u64.wrap ((IntKind.u64.wrap (rd bt219.1 5)) * 1099511627776))) (IntKind.u64.wrap ((IntKind.u64.wrap (rd bt219.1 4)) * 4294967296))) (IntKind.u64.wrap ((IntKind.u64.wrap (rd bt219.1 3)) * 16777216))) (IntKind.u64.wrap ((IntKind.u64.wrap (rd bt219.1 2)) * 65536))) (IntKind.u64.wrap ((IntKind.u64.wrap (rd bt219.1 1)) * 256))) (IntKind.u64.wrap (rd bt219.1 0)), bt219.2.1, bt219.2.2.1, bt219.2.2.2)) else (none)) else (none)) else (none)) else (none)) else (none)) else (none)) else (none)) else (none)) else (if (bt219.1.length : Int) = 7 then (if 6 < (bt219.1.length : Int) then (if 5 < (bt219.1.length : Int) then (if 4 < (bt219.1.length : Int) then (if 3 < (bt219.1.length : Int) then (if 2 < (bt219.1.length : Int) then (if 1 < (bt219.1.length : Int) then (if 0 < (bt219.1.length : Int) then (some (Go.bits .or .u64 (Go.bits .or .u64 (Go.bits .or .u64 (Go.bits .or .u64 (Go.bits .or .u64 (Go.bits .or .u64 (Go.bits .or .u64 0 (IntKind.u64.wrap ((IntKind.u64.wrap (rd bt219.1 6)) * 281474976710656))) (IntKind.u64.wrap ((IntKind.u64.wrap (rd bt219.1 5)) * 1099511627776))) (IntKind.u64.wrap ((IntKind.u64.wrap (rd bt219.1 4)) * 4294967296))) (IntKind.u64.wrap ((IntKind.u64.wrap (rd bt219.1 3)) * 16777216))) (IntKind.u64.wrap ((IntKind.u64.wrap (rd bt219.1 2)) * 65536))) (IntKind.u64.wrap ((IntKind.u64.wrap (rd bt219.1 1)) * 256))) (IntKind.u64.wrap (rd bt219.1 0)), bt219.2.1, bt219.2.2.1, bt219.2.2.2)) else (none)) else (none)) else (none)) else (none)) else (none)) else (none)) else (none)) else (if (bt219.1.length : Int) = 6 then (if 5 < (bt219.1.length : Int) then (if 4 < (bt219.1.length : Int) then (if 3 < (bt219.1.length : Int) then (if 2 < (bt219.1.length : Int) then (if 1 < (bt219.1.length : Int) then (if 0 < (bt219.1.length : Int) then (some (Go.bits .or .u64 (Go.bits .or .u64 (Go.bits .or .u64 (Go.bits .or .u64 (Go.bits .or .u64 (Go.bits .or .u64 0 (IntKind.u64.wrap ((IntKind.u64.wrap (rd bt219.1 5)) * 1099511627776))) (IntKind.u64.wrap ((IntKind.u64.wrap (rd bt219.1 4)) * 4294967296))) (IntKind.u64.wrap ((IntKind.u64.wrap (rd bt219.1 3)) * 16777216))) (IntKind.u64.wrap ((IntKind.u64.wrap (rd bt219.1 2)) * 65536))) (IntKind.u64.wrap ((IntKind.u64.wrap (rd bt219.1 1)) * 256))) (IntKind.u64.wrap (rd bt219.1 0)), bt219.2.1, bt219.2.2.1, bt219.2.2.2)) else (none)) else (none)) else (none)) else (none)) else (none)) else (none)) else (if (bt219.1.length : Int) = 5 then (if 4 < (bt219.1.length : Int) then (if 3 < (bt219.1.length : Int) then (if 2 < (bt219.1.length : Int) then (if 1 < (bt219.1.length : Int) then (if 0 < (bt219.1.length : Int) then (some (Go.bits .or .u64 (Go.bits .or .u64 (Go.bits .or .u64 (Go.bits .or .u64 (Go.bits .or .u64 0 (IntKind.u64.wrap ((IntKind.u64.wrap (rd bt219.1 4)) * 4294967296))) (IntKind.u64.wrap ((IntKind.u64.wrap (rd bt219.1 3)) * 16777216))) (IntKind.u64.wrap ((IntKind.u64.wrap (rd bt219.1 2)) * 65536))) (IntKind.u64.wrap ((IntKind.u64.wrap (rd bt219.1 1)) * 256))) (IntKind.u64.wrap (rd bt219.1 0)), bt219.2.1, bt219.2.2.1, bt219.2.2.2)) else (none)) else (none)) else (none)) else (none)) else (none)) else (if (bt219.1.length : Int) = 4 then (if 3 < (bt219.1.length : Int) then (if 2 < (bt219.1.length : Int) then (if 1 < (bt219.1.length : Int) then (if 0 < (bt219.1.length : Int) then (some (Go.bits .or .u64 (Go.bits .or .u64 (Go.bits .or .u64 (Go.bits .or .u64 0 (IntKind.u64.wrap ((IntKind.u64.wrap (rd bt219.1 3)) * 16777216))) (IntKind.u64.wrap ((IntKind.u64.wrap (rd bt219.1 2)) * 65536))) (IntKind.u64.wrap ((IntKind.u64.wrap (rd bt219.1 1)) * 256))) (IntKind.u64.wrap (rd bt219.1 0)), bt219.2.1, bt219.2.2.1, bt219.2.2.2)) else (none)) else (none)) else (none)) else (none)) else (if (bt219.1.length : Int) = 3 then (if 2 < (bt219.1.length : Int) then (if 1 < (bt219.1.length : Int) then (if 0 < (bt219.1.length : Int) then (some (Go.bits .or .u64 (Go.bits .or .u64 (Go.bits .or .u64 0 (IntKind.u64.wrap ((IntKind.u64.wrap (rd bt219.1 2)) * 65536))) (IntKind.u64.wrap ((IntKind.u64.wrap (rd bt219.1 1)) * 256))) (IntKind.u64.wrap (rd bt219.1 0)), bt219.2.1, bt219.2.2.1, bt219.2.2.2)) else (none)) else (none)) else (none)) else (if (bt219.1.length : Int) = 2 then (if 1 < (bt219.1.length : Int) then (if 0 < (bt219.1.length : Int) then (some (Go.bits .or .u64 (Go.bits .or .u64 0 (IntKind.u64.wrap ((IntKind.u64.wrap (rd bt219.1 1)) * 256))) (IntKind.u64.wrap (rd bt219.1 0)), bt219.2.1, bt219.2.2.1, bt219.2.2.2)) else (none)) else (none)) else (if (bt219.1.length : Int) = 1 then (if 0 < (bt219.1.length : Int) then (some (Go.bits .or .u64 0 (IntKind.u64.wrap (rd bt219.1 0)), bt219.2.1, bt219.2.2.1, bt219.2.2.2)) else (none)) else (some (0, bt219.2.1, bt219.2.2.1, bt219.2.2.2))))))))))) = some (r1, r2, r3, r4) := by rw [if_neg (show ¬ (false = true) by decide)] at H; exact H
        clear H
        have H := H1
        clear H1
        replace H := Option.bind_eq_some_iff.mp H
        obtain ⟨⟨t219, t222, t223, t224⟩, A120, H⟩ := H
        replace H : (if (t219.length : Int) = 8 then (if 7 < (t219.length : Int) then (if 6 < (t219.length : Int) then (if 5 < (t219.length : Int) then (if 4 < (t219.length : Int) then (if 3 < (t219.length : Int) then (if 2 < (t219.length : Int) then (if 1 < (t219.length : Int) then (if 0 < (t219.length : Int) then (some (Go.bits .or .u64 (Go.bits .or .u64 (Go.bits .or .u64 (Go.bits .or .u64 (Go.bits .or .u64 (Go.bits .or .u64 (Go.bits .or .u64 (Go.bits .or .u64 0 (IntKind.u64.wrap ((IntKind.u64.wrap (rd t219 7)) * 72057594037927936))) (IntKind.u64.wrap ((IntKind.u64.wrap (rd t219 6)) * 281474976710656))) (IntKind.u64.wrap ((IntKind.u64.wrap (rd t219 5)) * 1099511627776))) (IntKind.u64.wrap ((IntKind.u64.wrap (rd t219 4)) * 4294967296))) (IntKind.u64.wrap ((IntKind.u64.wrap (rd t219 3)) * 16777216))) (IntKind.u64.wrap ((IntKind.u64.wrap (rd t219 2)) * 65536))) (IntKind.u64.wrap ((IntKind.u64.wrap (rd t219 1)) * 256))) (IntKind.u64.wrap (rd t219 0)), t222, t223, t224)) else (none)) else (none)) else (none)) else (none)) else (none)) else (none)) else (none)) else (none)) else (if (t219.length : Int) = 7 then (if 6 < (t219.length : Int) then (if 5 < (t219.length : Int) then (if 4 < (t219.length : Int) then (if 3 < (t219.length : Int) then (if 2 < (t219.length : Int) then (if 1 < (t219.length : Int) then (if 0 < (t219.length : Int) then (some (Go.bits .or .u64 (Go.bits .or .u64 (Go.bits .or .u64 (Go.bits .or .u64 (Go.bits .or .u64 (Go.bits .or .u64 (Go.bits .or .u64 0 (IntKind.u64.wrap ((IntKind.u64.wrap (rd t219 6)) * 281474976710656))) (IntKind.u64.wrap ((IntKind.u64.wrap (rd t219 5)) * 1099511627776))) (IntKind.u64.wrap ((IntKind.u64.wrap (rd t219 4)) * 4294967296))) (IntKind.u64.wrap ((IntKind.u64.wrap (rd t219 3)) * 16777216))) (IntKind.u64.wrap ((IntKind.u64.wrap (rd t219 2)) * 65536))) (IntKind.u64.wrap ((IntKind.u64.wrap (rd t219 1)) * 256))) (IntKind.u64.wrap (rd t219 0)), t222, t223, t224)) else (none)) else (none)) else (none)) else (none)) else (none)) else (none)) else (none)) else (if (t219.length : Int) = 6 then (if 5 < (t219.length : Int) then (if 4 < (t219.length : Int) then (if 3 < (t219.length : Int) then (if 2 < (t219.length : Int) then (if 1 < (t219.length : Int) then (if 0 < (t219.length : Int) then (some (Go.bits .or .u64 (Go.bits .or .u64 (Go.bits .or .u64 (Go.bits .or .u64 (Go.bits .or .u64 (Go.bits .or .u64 0 (IntKind.u64.wrap ((IntKind.u64.wrap (rd t219 5)) * 1099511627776))) (IntKind.u64.wrap ((IntKind.u64.wrap (rd t219 4)) * 4294967296))) (IntKind.u64.wrap ((IntKind.u64.wrap (rd t219 3)) * 16777216))) (IntKind.u64.wrap ((IntKind.u64.wrap (rd t219 2)) * 65536))) (IntKind.u64.wrap ((IntKind.u64.wrap (rd t219 1)) * 256))) (IntKind.u64.wrap (rd t219 0)), t222, t223, t224)) else (none)) else (none)) else (none)) else (none)) else (none)) else (none)) else (if (t219.length : Int) = 5 then (if 4 < (t219.length : Int) then (if 3 < (t219.length : Int) then (if 2 < (t219.length : Int) then (if 1 < (t219.length : Int) then (if 0 < (t219.length : Int) then (some (Go.bits .or .u64 (Go.bits .or .u64 (Go.bits .or .u64 (Go.bits .or .u64 (Go.bits .or .u64 0 (IntKind.u64.wrap ((IntKind.u64.wrap (rd t219 4)) * 4294967296))) (IntKind.u64.wrap ((IntKind.u64.wrap (rd t219 3)) * 16777216))) (IntKind.u64.wrap ((IntKind.u64.wrap (rd t219 2)) * 65536))) (IntKind.u64.wrap ((IntKind.u64.wrap (rd t219 1)) * 256))) (IntKind.u64.wrap (rd t219 0)), t222, t223, t224)) else (none)) else (none)) else (none)) else (none)) else (none)) else (if (t219.length : Int) = 4 then (if 3 < (t219.length : Int) then (if 2 < (t219.length : Int) then (if 1 < (t219.length : Int) then (if 0 < (t219.length : Int) then (some (Go.bits .or .u64 (Go.bits .or .u64 (Go.bits .or .u64 (Go.bits .or .u64 0 (IntKind.u64.wrap ((IntKind.u64.wrap (rd t219 3)) * 16777216))) (IntKind.u64.wrap ((IntKind.u64.wrap (rd t219 2)) * 65536))) (IntKind.u64.wrap ((IntKind.u64.wrap (rd t219 1)) * 256))) (IntKind.u64.wrap (rd t219 0)), t222, t223, t224)) else (none)) else (none)) else (none)) else (none)) else (if (t219.length : Int) = 3 then (if 2 < (t219.length : Int) then (if 1 < (t219.length : Int) then (if 0 < (t219.length : Int) then (some (Go.bits .or .u64 (Go.bits .or .u64 (Go.bits .or .u64 0 (IntKind.u64.wrap ((IntKind.u64.wrap (rd t219 2)) * 65536))) (IntKind.u64.wrap ((IntKind.u64.wrap (rd t219 1)) * 256))) (IntKind.u64.wrap (rd t219 0)), t222, t223, t224)) else (none)) else (none)) else (none)) else (if (t219.length : Int) = 2 then (if 1 < (t219.length : Int) then (if 0 < (t219.length : Int) then (some (Go.bits .or .u64 (Go.bits .or .u64 0 (IntKind.u64.wrap ((IntKind.u64.wrap (rd t219 1)) * 256))) (IntKind.u64.wrap (rd t219 0)), t222, t223, t224)) else (none)) else (none)) else (if (t219.length : Int) = 1 then (if 0 < (t219.length : Int) then (some (Go.bits .or .u64 0 (IntKind.u64.wrap (rd t219 0)), t222, t223, t224)) else (none)) else (some (0, t222, t223, t224)))))))))) = some (r1, r2, r3, r4) := H
        have A12 := Aside0.mk A120
        clear A120
        by_cases c13 : (t219.length : Int) = 8
        · rw [if_pos c13] at H
          have c13b0 : ((t219.length : Int) == 8) = true := beq_iff_eq.mpr c13
          have c13b1 : ((t219.length : Int) != 8) = false := bne_eq_false_iff_eq.mpr c13
          clear c13
          by_cases c14 : 7 < (t219.length : Int)
          · rw [if_pos c14] at H
            have c14b0 : decide (7 < (t219.length : Int)) = true := decide_eq_true c14
            have c14b1 : decide (7 < t219.length) = true := decide_eq_true (by omega)
            clear c14
            by_cases c15 : 6 < (t219.length : Int)
            · rw [if_pos c15] at H
              have c15b0 : decide (6 < (t219.length : Int)) = true := decide_eq_true c15
              have c15b1 : decide (6 < t219.length) = true := decide_eq_true (by omega)
              clear c15
              by_cases c16 : 5 < (t219.length : Int)
              · rw [if_pos c16] at H
                have c16b0 : decide (5 < (t219.length : Int)) = true := decide_eq_true c16
                have c16b1 : decide (5 < t219.length) = true := decide_eq_true (by omega)
                clear c16
                by_cases c17 : 4 < (t219.length : Int)
                · rw [if_pos c17] at H
                  have c17b0 : decide (4 < (t219.length : Int)) = true := decide_eq_true c17
                  have c17b1 : decide (4 < t219.length) = true := decide_eq_true (by omega)
                  clear c17
                  by_cases c18 : 3 < (t219.length : Int)
                  · rw [if_pos c18] at H
                    have c18b0 : decide (3 < (t219.length : Int)) = true := decide_eq_true c18
                    have c18b1 : decide (3 < t219.length) = true := decide_eq_true (by omega)
                    clear c18
                    by_cases c19 : 2 < (t219.length : Int)
                    · rw [if_pos c19] at H
                      have c19b0 : decide (2 < (t219.length : Int)) = true := decide_eq_true c19
                      have c19b1 : decide (2 < t219.length) = true := decide_eq_true (by omega)
                      clear c19
                      by_cases c20 : 1 < (t219.length : Int)
                      · rw [if_pos c20] at H
                        have c20b0 : decide (1 < (t219.length : Int)) = true := decide_eq_true c20
                        have c20b1 : decide (1 < t219.length) = true := decide_eq_true (by omega)
                        clear c20
                        by_cases c21 : 0 < (t219.length : Int)
                        · rw [if_pos c21] at H
                          have c21b0 : decide (0 < (t219.length : Int)) = true := decide_eq_true c21
                          have c21b1 : decide (0 < t219.length) = true := decide_eq_true (by omega)
                          clear c21
                          simp only [Option.some.injEq, Prod.mk.injEq] at H
                          obtain ⟨rfl, rfl, rfl, rfl⟩ := H
                          go_wp2_with (first | ((with_reducible refine gate_callee (f := 37) rfl ?_); refine goesL_ (some 19) rfl rfl Tryd.func37 (by kernel_rfl) rfl #[.pointer (some ⟨g, 0, none⟩), .int .i64 a1] rfl (by (try simp only [List.map_toArray, List.map_cons, List.map_nil]); first | done | rfl | (simp only [List.length_drop, List.length_take]; rfl)) ?_; (with_reducible refine (num_Reader_Take.calls g s0_0 s0_1 s0_2 s0_3 a1 t219 t222 t223 t224 w0 _ ?side1 ?side2 A12.out).mono ?_); (case side1 => repeat (first | (with_reducible first | exact HI0.out | apply IsS127.alloc | apply IsS127.drewN | apply IsS127.drew | apply IsS127.set_1 | apply IsS127.set_2 | apply IsS127.set_3) | exact HI0.out)); (case side2 => repeat (first | (with_reducible first | exact HB.out | apply below_alloc | apply pw_below_drewN | apply below_drew1 | refine below_set ?_ (IsS127.ge HI0.out)) | exact HB.out)); rintro e w22 ⟨v220, rfl, ho0, hi, hb, hk⟩; refine ⟨_, rfl, ?_⟩; have n0_ := Aside0.mk (Kd.R_lower ho0 (keep_size (w := w) (g := g) (row := none) (by repeat (first | (with_reducible first | exact HK.out | apply KeepBut.set_ | apply keep_drewN | apply keep_drew | apply keep_alloc) | exact HK.out)))); have n1_ := Aside0.mk (KeepBut.trans (by repeat (first | (with_reducible first | exact HK.out | apply KeepBut.set_ | apply keep_drewN | apply keep_drew | apply keep_alloc) | exact HK.out)) hk (.inl rfl)); have n2_ := Aside0.mk (hb); have n3_ := Aside0.mk (hi); clear HK; clear HB; clear HI0; have HO221 := n0_; have HK := n1_; have HB := n2_; have HI0 := n3_; clear n0_ n1_ n2_ n3_; (try clear hb); (try clear hb2); (try clear hk); (try clear hi); (try clear ho0); obtain ⟨Ao23, co23, eo23⟩ := Kd.R_slice HO221.out; subst eo23; have p225 : 0 ≤ (7 : Int) := (by omega); have q225 : 7 < (t219.length : Int) := of_decide_eq_true (by first | (with_reducible assumption) | assumption); obtain ⟨ad225, e225, hx225_0⟩ := Kd.at_int (Kd.R_reads' HO221.out).2.2 7 p225 q225; cases e225; (try simp only [show (7 : Int).toNat = 7 from rfl, Nat.reduceMul, Nat.reduceEqDiff, Go.Addr.add, ↓reduceIte] at hx225_0); have qi225 : (7 < t219.length) = True := eq_true (by omega); (try rw [show ((7 : Int)).toNat = 7 from rfl] at hx225_0); replace p225 := eq_true p225; replace q225 := eq_true q225; have p226 : 0 ≤ (6 : Int) := (by omega); have q226 : 6 < (t219.length : Int) := of_decide_eq_true (by first | (with_reducible assumption) | assumption); obtain ⟨ad226, e226, hx226_0⟩ := Kd.at_int (Kd.R_reads' HO221.out).2.2 6 p226 q226; obtain rfl : ad225 = ad226 := (by injection e226); (try simp only [show (6 : Int).toNat = 6 from rfl, Nat.reduceMul, Nat.reduceEqDiff, Go.Addr.add, ↓reduceIte] at hx226_0); have qi226 : (6 < t219.length) = True := eq_true (by omega); (try rw [show ((6 : Int)).toNat = 6 from rfl] at hx226_0); replace p226 := eq_true p226; replace q226 := eq_true q226; have p227 : 0 ≤ (5 : Int) := (by omega); have q227 : 5 < (t219.length : Int) := of_decide_eq_true (by first | (with_reducible assumption) | assumption); obtain ⟨ad227, e227, hx227_0⟩ := Kd.at_int (Kd.R_reads' HO221.out).2.2 5 p227 q227; obtain rfl : ad225 = ad227 := (by injection e227); (try simp only [show (5 : Int).toNat = 5 from rfl, Nat.reduceMul, Nat.reduceEqDiff, Go.Addr.add, ↓reduceIte] at hx227_0); have qi227 : (5 < t219.length) = True := eq_true (by omega); (try rw [show ((5 : Int)).toNat = 5 from rfl] at hx227_0); replace p227 := eq_true p227; replace q227 := eq_true q227; have p228 : 0 ≤ (4 : Int) := (by omega); have q228 : 4 < (t219.length : Int) := of_decide_eq_true (by first | (with_reducible assumption) | assumption); obtain ⟨ad228, e228, hx228_0⟩ := Kd.at_int (Kd.R_reads' HO221.out).2.2 4 p228 q228; obtain rfl : ad225 = ad228 := (by injection e228); (try simp only [show (4 : Int).toNat = 4 from rfl, Nat.reduceMul, Nat.reduceEqDiff, Go.Addr.add, ↓reduceIte] at hx228_0); have qi228 : (4 < t219.length) = True := eq_true (by omega); (try rw [show ((4 : Int)).toNat = 4 from rfl] at hx228_0); replace p228 := eq_true p228; replace q228 := eq_true q228; have p229 : 0 ≤ (3 : Int) := (by omega); have q229 : 3 < (t219.length : Int) := of_decide_eq_true (by first | (with_reducible assumption) | assumption); obtain ⟨ad229, e229, hx229_0⟩ := Kd.at_int (Kd.R_reads' HO221.out).2.2 3 p229 q229; obtain rfl : ad225 = ad229 := (by injection e229); (try simp only [show (3 : Int).toNat = 3 from rfl, Nat.reduceMul, Nat.reduceEqDiff, Go.Addr.add, ↓reduceIte] at hx229_0); have qi229 : (3 < t219.length) = True := eq_true (by omega); (try rw [show ((3 : Int)).toNat = 3 from rfl] at hx229_0); replace p229 := eq_true p229; replace q229 := eq_true q229; have p230 : 0 ≤ (2 : Int) := (by omega); have q230 : 2 < (t219.length : Int) := of_decide_eq_true (by first | (with_reducible assumption) | assumption); obtain ⟨ad230, e230, hx230_0⟩ := Kd.at_int (Kd.R_reads' HO221.out).2.2 2 p230 q230; obtain rfl : ad225 = ad230 := (by injection e230); (try simp only [show (2 : Int).toNat = 2 from rfl, Nat.reduceMul, Nat.reduceEqDiff, Go.Addr.add, ↓reduceIte] at hx230_0); have qi230 : (2 < t219.length) = True := eq_true (by omega); (try rw [show ((2 : Int)).toNat = 2 from rfl] at hx230_0); replace p230 := eq_true p230; replace q230 := eq_true q230; have p231 : 0 ≤ (1 : Int) := (by omega); have q231 : 1 < (t219.length : Int) := of_decide_eq_true (by first | (with_reducible assumption) | assumption); obtain ⟨ad231, e231, hx231_0⟩ := Kd.at_int (Kd.R_reads' HO221.out).2.2 1 p231 q231; obtain rfl : ad225 = ad231 := (by injection e231); (try simp only [show (1 : Int).toNat = 1 from rfl, Nat.reduceMul, Nat.reduceEqDiff, Go.Addr.add, ↓reduceIte] at hx231_0); have qi231 : (1 < t219.length) = True := eq_true (by omega); (try rw [show ((1 : Int)).toNat = 1 from rfl] at hx231_0); replace p231 := eq_true p231; replace q231 := eq_true q231; have p232 : 0 ≤ (0 : Int) := (by omega); have q232 : 0 < (t219.length : Int) := of_decide_eq_true (by first | (with_reducible assumption) | assumption); obtain ⟨ad232, e232, hx232_0⟩ := Kd.at_int (Kd.R_reads' HO221.out).2.2 0 p232 q232; obtain rfl : ad225 = ad232 := (by injection e232); have qi232 : (0 < t219.length) = True := eq_true (by omega); (try rw [show ((0 : Int)).toNat = 0 from rfl] at hx232_0); (try rw [Addr.add_zero'] at hx232_0); replace p232 := eq_true p232; replace q232 := eq_true q232))
                          go_ret
                          exact ⟨by first | rfl | (simp [errW_none, errW_some] <;> rfl) | (simp [*, errW_none, errW_some] <;> rfl), by repeat (first | (with_reducible first | exact HI0.out | apply IsS127.alloc | apply IsS127.drewN | apply IsS127.drew | apply IsS127.set_1 | apply IsS127.set_2 | apply IsS127.set_3) | exact HI0.out), by repeat (first | (with_reducible first | exact HB.out | apply below_alloc | apply pw_below_drewN | apply below_drew1 | refine below_set ?_ (IsS127.ge HI0.out)) | exact HB.out), by repeat (first | (with_reducible first | exact HK.out | apply KeepBut.set_ | apply keep_drewN | apply keep_drew | apply keep_alloc) | exact HK.out)⟩
                        · rw [if_neg c21] at H
                          exact absurd H (by simp)
                      · rw [if_neg c20] at H
                        exact absurd H (by simp)
                    · rw [if_neg c19] at H
                      exact absurd H (by simp)
                  · rw [if_neg c18] at H
                    exact absurd H (by simp)
                · rw [if_neg c17] at H
                  exact absurd H (by simp)
              · rw [if_neg c16] at H
                exact absurd H (by simp)
            · rw [if_neg c15] at H
              exact absurd H (by simp)
          · rw [if_neg c14] at H
            exact absurd H (by simp)
        · rw [if_neg c13] at H
          have c13b0 : ((t219.length : Int) == 8) = false := beq_eq_false_iff_ne.mpr c13
          have c13b1 : ((t219.length : Int) != 8) = true := bne_iff_ne.mpr c13
          by_cases c24 : (t219.length : Int) = 7
          · rw [if_pos c24] at H
            have c24b0 : ((t219.length : Int) == 7) = true := beq_iff_eq.mpr c24
            have c24b1 : ((t219.length : Int) != 7) = false := bne_eq_false_iff_eq.mpr c24
            clear c24
            by_cases c25 : 6 < (t219.length : Int)
            · rw [if_pos c25] at H
              have c25b0 : decide (6 < (t219.length : Int)) = true := decide_eq_true c25
              have c25b1 : decide (6 < t219.length) = true := decide_eq_true (by omega)
              clear c25
              by_cases c26 : 5 < (t219.length : Int)
              · rw [if_pos c26] at H
                have c26b0 : decide (5 < (t219.length : Int)) = true := decide_eq_true c26
                have c26b1 : decide (5 < t219.length) = true := decide_eq_true (by omega)
                clear c26
                by_cases c27 : 4 < (t219.length : Int)
                · rw [if_pos c27] at H
                  have c27b0 : decide (4 < (t219.length : Int)) = true := decide_eq_true c27
                  have c27b1 : decide (4 < t219.length) = true := decide_eq_true (by omega)
                  clear c27
                  by_cases c28 : 3 < (t219.length : Int)
                  · rw [if_pos c28] at H
                    have c28b0 : decide (3 < (t219.length : Int)) = true := decide_eq_true c28
                    have c28b1 : decide (3 < t219.length) = true := decide_eq_true (by omega)
                    clear c28
                    by_cases c29 : 2 < (t219.length : Int)
                    · rw [if_pos c29] at H
                      have c29b0 : decide (2 < (t219.length : Int)) = true := decide_eq_true c29
                      have c29b1 : decide (2 < t219.length) = true := decide_eq_true (by omega)
                      clear c29
                      by_cases c30 : 1 < (t219.length : Int)
                      · rw [if_pos c30] at H
                        have c30b0 : decide (1 < (t219.length : Int)) = true := decide_eq_true c30
                        have c30b1 : decide (1 < t219.length) = true := decide_eq_true (by omega)
                        clear c30
                        by_cases c31 : 0 < (t219.length : Int)
                        · rw [if_pos c31] at H
                          have c31b0 : decide (0 < (t219.length : Int)) = true := decide_eq_true c31
                          have c31b1 : decide (0 < t219.length) = true := decide_eq_true (by omega)
                          clear c31
                          simp only [Option.some.injEq, Prod.mk.injEq] at H
                          obtain ⟨rfl, rfl, rfl, rfl⟩ := H
                          go_wp2_with (first | ((with_reducible refine gate_callee (f := 37) rfl ?_); refine goesL_ (some 19) rfl rfl Tryd.func37 (by kernel_rfl) rfl #[.pointer (some ⟨g, 0, none⟩), .int .i64 a1] rfl (by (try simp only [List.map_toArray, List.map_cons, List.map_nil]); first | done | rfl | (simp only [List.length_drop, List.length_take]; rfl)) ?_; (with_reducible refine (num_Reader_Take.calls g s0_0 s0_1 s0_2 s0_3 a1 t219 t222 t223 t224 w0 _ ?side1 ?side2 A12.out).mono ?_); (case side1 => repeat (first | (with_reducible first | exact HI0.out | apply IsS127.alloc | apply IsS127.drewN | apply IsS127.drew | apply IsS127.set_1 | apply IsS127.set_2 | apply IsS127.set_3) | exact HI0.out)); (case side2 => repeat (first | (with_reducible first | exact HB.out | apply below_alloc | apply pw_below_drewN | apply below_drew1 | refine below_set ?_ (IsS127.ge HI0.out)) | exact HB.out)); rintro e w32 ⟨v220, rfl, ho0, hi, hb, hk⟩; refine ⟨_, rfl, ?_⟩; have n0_ := Aside0.mk (Kd.R_lower ho0 (keep_size (w := w) (g := g) (row := none) (by repeat (first | (with_reducible first | exact HK.out | apply KeepBut.set_ | apply keep_drewN | apply keep_drew | apply keep_alloc) | exact HK.out)))); have n1_ := Aside0.mk (KeepBut.trans (by repeat (first | (with_reducible first | exact HK.out | apply KeepBut.set_ | apply keep_drewN | apply keep_drew | apply keep_alloc) | exact HK.out)) hk (.inl rfl)); have n2_ := Aside0.mk (hb); have n3_ := Aside0.mk (hi); clear HK; clear HB; clear HI0; have HO221 := n0_; have HK := n1_; have HB := n2_; have HI0 := n3_; clear n0_ n1_ n2_ n3_; (try clear hb); (try clear hb2); (try clear hk); (try clear hi); (try clear ho0); obtain ⟨Ao33, co33, eo33⟩ := Kd.R_slice HO221.out; subst eo33; have p233 : 0 ≤ (6 : Int) := (by omega); have q233 : 6 < (t219.length : Int) := of_decide_eq_true (by first | (with_reducible assumption) | assumption); obtain ⟨ad233, e233, hx233_0⟩ := Kd.at_int (Kd.R_reads' HO221.out).2.2 6 p233 q233; cases e233; (try simp only [show (6 : Int).toNat = 6 from rfl, Nat.reduceMul, Nat.reduceEqDiff, Go.Addr.add, ↓reduceIte] at hx233_0); have qi233 : (6 < t219.length) = True := eq_true (by omega); (try rw [show ((6 : Int)).toNat = 6 from rfl] at hx233_0); replace p233 := eq_true p233; replace q233 := eq_true q233; have p234 : 0 ≤ (5 : Int) := (by omega); have q234 : 5 < (t219.length : Int) := of_decide_eq_true (by first | (with_reducible assumption) | assumption); obtain ⟨ad234, e234, hx234_0⟩ := Kd.at_int (Kd.R_reads' HO221.out).2.2 5 p234 q234; obtain rfl : ad233 = ad234 := (by injection e234); (try simp only [show (5 : Int).toNat = 5 from rfl, Nat.reduceMul, Nat.reduceEqDiff, Go.Addr.add, ↓reduceIte] at hx234_0); have qi234 : (5 < t219.length) = True := eq_true (by omega); (try rw [show ((5 : Int)).toNat = 5 from rfl] at hx234_0); replace p234 := eq_true p234; replace q234 := eq_true q234; have p235 : 0 ≤ (4 : Int) := (by omega); have q235 : 4 < (t219.length : Int) := of_decide_eq_true (by first | (with_reducible assumption) | assumption); obtain ⟨ad235, e235, hx235_0⟩ := Kd.at_int (Kd.R_reads' HO221.out).2.2 4 p235 q235; obtain rfl : ad233 = ad235 := (by injection e235); (try simp only [show (4 : Int).toNat = 4 from rfl, Nat.reduceMul, Nat.reduceEqDiff, Go.Addr.add, ↓reduceIte] at hx235_0); have qi235 : (4 < t219.length) = True := eq_true (by omega); (try rw [show ((4 : Int)).toNat = 4 from rfl] at hx235_0); replace p235 := eq_true p235; replace q235 := eq_true q235; have p236 : 0 ≤ (3 : Int) := (by omega); have q236 : 3 < (t219.length : Int) := of_decide_eq_true (by first | (with_reducible assumption) | assumption); obtain ⟨ad236, e236, hx236_0⟩ := Kd.at_int (Kd.R_reads' HO221.out).2.2 3 p236 q236; obtain rfl : ad233 = ad236 := (by injection e236); (try simp only [show (3 : Int).toNat = 3 from rfl, Nat.reduceMul, Nat.reduceEqDiff, Go.Addr.add, ↓reduceIte] at hx236_0); have qi236 : (3 < t219.length) = True := eq_true (by omega); (try rw [show ((3 : Int)).toNat = 3 from rfl] at hx236_0); replace p236 := eq_true p236; replace q236 := eq_true q236; have p237 : 0 ≤ (2 : Int) := (by omega); have q237 : 2 < (t219.length : Int) := of_decide_eq_true (by first | (with_reducible assumption) | assumption); obtain ⟨ad237, e237, hx237_0⟩ := Kd.at_int (Kd.R_reads' HO221.out).2.2 2 p237 q237; obtain rfl : ad233 = ad237 := (by injection e237); (try simp only [show (2 : Int).toNat = 2 from rfl, Nat.reduceMul, Nat.reduceEqDiff, Go.Addr.add, ↓reduceIte] at hx237_0); have qi237 : (2 < t219.length) = True := eq_true (by omega); (try rw [show ((2 : Int)).toNat = 2 from rfl] at hx237_0); replace p237 := eq_true p237; replace q237 := eq_true q237; have p238 : 0 ≤ (1 : Int) := (by omega); have q238 : 1 < (t219.length : Int) := of_decide_eq_true (by first | (with_reducible assumption) | assumption); obtain ⟨ad238, e238, hx238_0⟩ := Kd.at_int (Kd.R_reads' HO221.out).2.2 1 p238 q238; obtain rfl : ad233 = ad238 := (by injection e238); (try simp only [show (1 : Int).toNat = 1 from rfl, Nat.reduceMul, Nat.reduceEqDiff, Go.Addr.add, ↓reduceIte] at hx238_0); have qi238 : (1 < t219.length) = True := eq_true (by omega); (try rw [show ((1 : Int)).toNat = 1 from rfl] at hx238_0); replace p238 := eq_true p238; replace q238 := eq_true q238; have p239 : 0 ≤ (0 : Int) := (by omega); have q239 : 0 < (t219.length : Int) := of_decide_eq_true (by first | (with_reducible assumption) | assumption); obtain ⟨ad239, e239, hx239_0⟩ := Kd.at_int (Kd.R_reads' HO221.out).2.2 0 p239 q239; obtain rfl : ad233 = ad239 := (by injection e239); have qi239 : (0 < t219.length) = True := eq_true (by omega); (try rw [show ((0 : Int)).toNat = 0 from rfl] at hx239_0); (try rw [Addr.add_zero'] at hx239_0); replace p239 := eq_true p239; replace q239 := eq_true q239))
                          go_ret
                          exact ⟨by first | rfl | (simp [errW_none, errW_some] <;> rfl) | (simp [*, errW_none, errW_some] <;> rfl), by repeat (first | (with_reducible first | exact HI0.out | apply IsS127.alloc | apply IsS127.drewN | apply IsS127.drew | apply IsS127.set_1 | apply IsS127.set_2 | apply IsS127.set_3) | exact HI0.out), by repeat (first | (with_reducible first | exact HB.out | apply below_alloc | apply pw_below_drewN | apply below_drew1 | refine below_set ?_ (IsS127.ge HI0.out)) | exact HB.out), by repeat (first | (with_reducible first | exact HK.out | apply KeepBut.set_ | apply keep_drewN | apply keep_drew | apply keep_alloc) | exact HK.out)⟩
                        · rw [if_neg c31] at H
                          exact absurd H (by simp)
                      · rw [if_neg c30] at H
                        exact absurd H (by simp)
                    · rw [if_neg c29] at H
                      exact absurd H (by simp)
                  · rw [if_neg c28] at H
                    exact absurd H (by simp)
                · rw [if_neg c27] at H
                  exact absurd H (by simp)
              · rw [if_neg c26] at H
                exact absurd H (by simp)
            · rw [if_neg c25] at H
              exact absurd H (by simp)
          · rw [if_neg c24] at H
            have c24b0 : ((t219.length : Int) == 7) = false := beq_eq_false_iff_ne.mpr c24
            have c24b1 : ((t219.length : Int) != 7) = true := bne_iff_ne.mpr c24
            by_cases c34 : (t219.length : Int) = 6
            · rw [if_pos c34] at H
              have c34b0 : ((t219.length : Int) == 6) = true := beq_iff_eq.mpr c34
              have c34b1 : ((t219.length : Int) != 6) = false := bne_eq_false_iff_eq.mpr c34
              clear c34
              by_cases c35 : 5 < (t219.length : Int)
              · rw [if_pos c35] at H
                have c35b0 : decide (5 < (t219.length : Int)) = true := decide_eq_true c35
                have c35b1 : decide (5 < t219.length) = true := decide_eq_true (by omega)
                clear c35
                by_cases c36 : 4 < (t219.length : Int)
                · rw [if_pos c36] at H
                  have c36b0 : decide (4 < (t219.length : Int)) = true := decide_eq_true c36
                  have c36b1 : decide (4 < t219.length) = true := decide_eq_true (by omega)
                  clear c36
                  by_cases c37 : 3 < (t219.length : Int)
                  · rw [if_pos c37] at H
                    have c37b0 : decide (3 < (t219.length : Int)) = true := decide_eq_true c37
                    have c37b1 : decide (3 < t219.length) = true := decide_eq_true (by omega)
                    clear c37
                    by_cases c38 : 2 < (t219.length : Int)
                    · rw [if_pos c38] at H
                      have c38b0 : decide (2 < (t219.length : Int)) = true := decide_eq_true c38
                      have c38b1 : decide (2 < t219.length) = true := decide_eq_true (by omega)
                      clear c38
                      by_cases c39 : 1 < (t219.length : Int)
                      · rw [if_pos c39] at H
                        have c39b0 : decide (1 < (t219.length : Int)) = true := decide_eq_true c39
                        have c39b1 : decide (1 < t219.length) = true := decide_eq_true (by omega)
                        clear c39
                        by_cases c40 : 0 < (t219.length : Int)
                        · rw [if_pos c40] at H
                          have c40b0 : decide (0 < (t219.length : Int)) = true := decide_eq_true c40
                          have c40b1 : decide (0 < t219.length) = true := decide_eq_true (by omega)
                          clear c40
                          simp only [Option.some.injEq, Prod.mk.injEq] at H
                          obtain ⟨rfl, rfl, rfl, rfl⟩ := H
                          go_wp2_with (first | ((with_reducible refine gate_callee (f := 37) rfl ?_); refine goesL_ (some 19) rfl rfl Tryd.func37 (by kernel_rfl) rfl #[.pointer (some ⟨g, 0, none⟩), .int .i64 a1] rfl (by (try simp only [List.map_toArray, List.map_cons, List.map_nil]); first | done | rfl | (simp only [List.length_drop, List.length_take]; rfl)) ?_; (with_reducible refine (num_Reader_Take.calls g s0_0 s0_1 s0_2 s0_3 a1 t219 t222 t223 t224 w0 _ ?side1 ?side2 A12.out).mono ?_); (case side1 => repeat (first | (with_reducible first | exact HI0.out | apply IsS127.alloc | apply IsS127.drewN | apply IsS127.drew | apply IsS127.set_1 | apply IsS127.set_2 | apply IsS127.set_3) | exact HI0.out)); (case side2 => repeat (first | (with_reducible first | exact HB.out | apply below_alloc | apply pw_below_drewN | apply below_drew1 | refine below_set ?_ (IsS127.ge HI0.out)) | exact HB.out)); rintro e w41 ⟨v220, rfl, ho0, hi, hb, hk⟩; refine ⟨_, rfl, ?_⟩; have n0_ := Aside0.mk (Kd.R_lower ho0 (keep_size (w := w) (g := g) (row := none) (by repeat (first | (with_reducible first | exact HK.out | apply KeepBut.set_ | apply keep_drewN | apply keep_drew | apply keep_alloc) | exact HK.out)))); have n1_ := Aside0.mk (KeepBut.trans (by repeat (first | (with_reducible first | exact HK.out | apply KeepBut.set_ | apply keep_drewN | apply keep_drew | apply keep_alloc) | exact HK.out)) hk (.inl rfl)); have n2_ := Aside0.mk (hb); have n3_ := Aside0.mk (hi); clear HK; clear HB; clear HI0; have HO221 := n0_; have HK := n1_; have HB := n2_; have HI0 := n3_; clear n0_ n1_ n2_ n3_; (try clear hb); (try clear hb2); (try clear hk); (try clear hi); (try clear ho0); obtain ⟨Ao42, co42, eo42⟩ := Kd.R_slice HO221.out; subst eo42; have p240 : 0 ≤ (5 : Int) := (by omega); have q240 : 5 < (t219.length : Int) := of_decide_eq_true (by first | (with_reducible assumption) | assumption); obtain ⟨ad240, e240, hx240_0⟩ := Kd.at_int (Kd.R_reads' HO221.out).2.2 5 p240 q240; cases e240; (try simp only [show (5 : Int).toNat = 5 from rfl, Nat.reduceMul, Nat.reduceEqDiff, Go.Addr.add, ↓reduceIte] at hx240_0); have qi240 : (5 < t219.length) = True := eq_true (by omega); (try rw [show ((5 : Int)).toNat = 5 from rfl] at hx240_0); replace p240 := eq_true p240; replace q240 := eq_true q240; have p241 : 0 ≤ (4 : Int) := (by omega); have q241 : 4 < (t219.length : Int) := of_decide_eq_true (by first | (with_reducible assumption) | assumption); obtain ⟨ad241, e241, hx241_0⟩ := Kd.at_int (Kd.R_reads' HO221.out).2.2 4 p241 q241; obtain rfl : ad240 = ad241 := (by injection e241); (try simp only [show (4 : Int).toNat = 4 from rfl, Nat.reduceMul, Nat.reduceEqDiff, Go.Addr.add, ↓reduceIte] at hx241_0); have qi241 : (4 < t219.length) = True := eq_true (by omega); (try rw [show ((4 : Int)).toNat = 4 from rfl] at hx241_0); replace p241 := eq_true p241; replace q241 := eq_true q241; have p242 : 0 ≤ (3 : Int) := (by omega); have q242 : 3 < (t219.length : Int) := of_decide_eq_true (by first | (with_reducible assumption) | assumption); obtain ⟨ad242, e242, hx242_0⟩ := Kd.at_int (Kd.R_reads' HO221.out).2.2 3 p242 q242; obtain rfl : ad240 = ad242 := (by injection e242); (try simp only [show (3 : Int).toNat = 3 from rfl, Nat.reduceMul, Nat.reduceEqDiff, Go.Addr.add, ↓reduceIte] at hx242_0); have qi242 : (3 < t219.length) = True := eq_true (by omega); (try rw [show ((3 : Int)).toNat = 3 from rfl] at hx242_0); replace p242 := eq_true p242; replace q242 := eq_true q242; have p243 : 0 ≤ (2 : Int) := (by omega); have q243 : 2 < (t219.length : Int) := of_decide_eq_true (by first | (with_reducible assumption) | assumption); obtain ⟨ad243, e243, hx243_0⟩ := Kd.at_int (Kd.R_reads' HO221.out).2.2 2 p243 q243; obtain rfl : ad240 = ad243 := (by injection e243); (try simp only [show (2 : Int).toNat = 2 from rfl, Nat.reduceMul, Nat.reduceEqDiff, Go.Addr.add, ↓reduceIte] at hx243_0); have qi243 : (2 < t219.length) = True := eq_true (by omega); (try rw [show ((2 : Int)).toNat = 2 from rfl] at hx243_0); replace p243 := eq_true p243; replace q243 := eq_true q243; have p244 : 0 ≤ (1 : Int) := (by omega); have q244 : 1 < (t219.length : Int) := of_decide_eq_true (by first | (with_reducible assumption) | assumption); obtain ⟨ad244, e244, hx244_0⟩ := Kd.at_int (Kd.R_reads' HO221.out).2.2 1 p244 q244; obtain rfl : ad240 = ad244 := (by injection e244); (try simp only [show (1 : Int).toNat = 1 from rfl, Nat.reduceMul, Nat.reduceEqDiff, Go.Addr.add, ↓reduceIte] at hx244_0); have qi244 : (1 < t219.length) = True := eq_true (by omega); (try rw [show ((1 : Int)).toNat = 1 from rfl] at hx244_0); replace p244 := eq_true p244; replace q244 := eq_true q244; have p245 : 0 ≤ (0 : Int) := (by omega); have q245 : 0 < (t219.length : Int) := of_decide_eq_true (by first | (with_reducible assumption) | assumption); obtain ⟨ad245, e245, hx245_0⟩ := Kd.at_int (Kd.R_reads' HO221.out).2.2 0 p245 q245; obtain rfl : ad240 = ad245 := (by injection e245); have qi245 : (0 < t219.length) = True := eq_true (by omega); (try rw [show ((0 : Int)).toNat = 0 from rfl] at hx245_0); (try rw [Addr.add_zero'] at hx245_0); replace p245 := eq_true p245; replace q245 := eq_true q245))
                          go_ret
                          exact ⟨by first | rfl | (simp [errW_none, errW_some] <;> rfl) | (simp [*, errW_none, errW_some] <;> rfl), by repeat (first | (with_reducible first | exact HI0.out | apply IsS127.alloc | apply IsS127.drewN | apply IsS127.drew | apply IsS127.set_1 | apply IsS127.set_2 | apply IsS127.set_3) | exact HI0.out), by repeat (first | (with_reducible first | exact HB.out | apply below_alloc | apply pw_below_drewN | apply below_drew1 | refine below_set ?_ (IsS127.ge HI0.out)) | exact HB.out), by repeat (first | (with_reducible first | exact HK.out | apply KeepBut.set_ | apply keep_drewN | apply keep_drew | apply keep_alloc) | exact HK.out)⟩
                        · rw [if_neg c40] at H
                          exact absurd H (by simp)
                      · rw [if_neg c39] at H
                        exact absurd H (by simp)
                    · rw [if_neg c38] at H
                      exact absurd H (by simp)
                  · rw [if_neg c37] at H
                    exact absurd H (by simp)
                · rw [if_neg c36] at H
                  exact absurd H (by simp)
              · rw [if_neg c35] at H
                exact absurd H (by simp)
            · rw [if_neg c34] at H
              have c34b0 : ((t219.length : Int) == 6) = false := beq_eq_false_iff_ne.mpr c34
              have c34b1 : ((t219.length : Int) != 6) = true := bne_iff_ne.mpr c34
              by_cases c43 : (t219.length : Int) = 5
              · rw [if_pos c43] at H
                have c43b0 : ((t219.length : Int) == 5) = true := beq_iff_eq.mpr c43
                have c43b1 : ((t219.length : Int) != 5) = false := bne_eq_false_iff_eq.mpr c43
                clear c43
                by_cases c44 : 4 < (t219.length : Int)
                · rw [if_pos c44] at H
                  have c44b0 : decide (4 < (t219.length : Int)) = true := decide_eq_true c44
                  have c44b1 : decide (4 < t219.length) = true := decide_eq_true (by omega)
                  clear c44
                  by_cases c45 : 3 < (t219.length : Int)
                  · rw [if_pos c45] at H
                    have c45b0 : decide (3 < (t219.length : Int)) = true := decide_eq_true c45
                    have c45b1 : decide (3 < t219.length) = true := decide_eq_true (by omega)
                    clear c45
                    by_cases c46 : 2 < (t219.length : Int)
                    · rw [if_pos c46] at H
                      have c46b0 : decide (2 < (t219.length : Int)) = true := decide_eq_true c46
                      have c46b1 : decide (2 < t219.length) = true := decide_eq_true (by omega)
                      clear c46
                      by_cases c47 : 1 < (t219.length : Int)
                      · rw [if_pos c47] at H
                        have c47b0 : decide (1 < (t219.length : Int)) = true := decide_eq_true c47
                        have c47b1 : decide (1 < t219.length) = true := decide_eq_true (by omega)
                        clear c47
                        by_cases c48 : 0 < (t219.length : Int)
                        · rw [if_pos c48] at H
                          have c48b0 : decide (0 < (t219.length : Int)) = true := decide_eq_true c48
                          have c48b1 : decide (0 < t219.length) = true := decide_eq_true (by omega)
                          clear c48
                          simp only [Option.some.injEq, Prod.mk.injEq] at H
                          obtain ⟨rfl, rfl, rfl, rfl⟩ := H
                          go_wp2_with (first | ((with_reducible refine gate_callee (f := 37) rfl ?_); refine goesL_ (some 19) rfl rfl Tryd.func37 (by kernel_rfl) rfl #[.pointer (some ⟨g, 0, none⟩), .int .i64 a1] rfl (by (try simp only [List.map_toArray, List.map_cons, List.map_nil]); first | done | rfl | (simp only [List.length_drop, List.length_take]; rfl)) ?_; (with_reducible refine (num_Reader_Take.calls g s0_0 s0_1 s0_2 s0_3 a1 t219 t222 t223 t224 w0 _ ?side1 ?side2 A12.out).mono ?_); (case side1 => repeat (first | (with_reducible first | exact HI0.out | apply IsS127.alloc | apply IsS127.drewN | apply IsS127.drew | apply IsS127.set_1 | apply IsS127.set_2 | apply IsS127.set_3) | exact HI0.out)); (case side2 => repeat (first | (with_reducible first | exact HB.out | apply below_alloc | apply pw_below_drewN | apply below_drew1 | refine below_set ?_ (IsS127.ge HI0.out)) | exact HB.out)); rintro e w49 ⟨v220, rfl, ho0, hi, hb, hk⟩; refine ⟨_, rfl, ?_⟩; have n0_ := Aside0.mk (Kd.R_lower ho0 (keep_size (w := w) (g := g) (row := none) (by repeat (first | (with_reducible first | exact HK.out | apply KeepBut.set_ | apply keep_drewN | apply keep_drew | apply keep_alloc) | exact HK.out)))); have n1_ := Aside0.mk (KeepBut.trans (by repeat (first | (with_reducible first | exact HK.out | apply KeepBut.set_ | apply keep_drewN | apply keep_drew | apply keep_alloc) | exact HK.out)) hk (.inl rfl)); have n2_ := Aside0.mk (hb); have n3_ := Aside0.mk (hi); clear HK; clear HB; clear HI0; have HO221 := n0_; have HK := n1_; have HB := n2_; have HI0 := n3_; clear n0_ n1_ n2_ n3_; (try clear hb); (try clear hb2); (try clear hk); (try clear hi); (try clear ho0); obtain ⟨Ao50, co50, eo50⟩ := Kd.R_slice HO221.out; subst eo50; have p246 : 0 ≤ (4 : Int) := (by omega); have q246 : 4 < (t219.length : Int) := of_decide_eq_true (by first | (with_reducible assumption) | assumption); obtain ⟨ad246, e246, hx246_0⟩ := Kd.at_int (Kd.R_reads' HO221.out).2.2 4 p246 q246; cases e246; (try simp only [show (4 : Int).toNat = 4 from rfl, Nat.reduceMul, Nat.reduceEqDiff, Go.Addr.add, ↓reduceIte] at hx246_0); have qi246 : (4 < t219.length) = True := eq_true (by omega); (try rw [show ((4 : Int)).toNat = 4 from rfl] at hx246_0); replace p246 := eq_true p246; replace q246 := eq_true q246; have p247 : 0 ≤ (3 : Int) := (by omega); have q247 : 3 < (t219.length : Int) := of_decide_eq_true (by first | (with_reducible assumption) | assumption); obtain ⟨ad247, e247, hx247_0⟩ := Kd.at_int (Kd.R_reads' HO221.out).2.2 3 p247 q247; obtain rfl : ad246 = ad247 := (by injection e247); (try simp only [show (3 : Int).toNat = 3 from rfl, Nat.reduceMul, Nat.reduceEqDiff, Go.Addr.add, ↓reduceIte] at hx247_0); have qi247 : (3 < t219.length) = True := eq_true (by omega); (try rw [show ((3 : Int)).toNat = 3 from rfl] at hx247_0); replace p247 := eq_true p247; replace q247 := eq_true q247; have p248 : 0 ≤ (2 : Int) := (by omega); have q248 : 2 < (t219.length : Int) := of_decide_eq_true (by first | (with_reducible assumption) | assumption); obtain ⟨ad248, e248, hx248_0⟩ := Kd.at_int (Kd.R_reads' HO221.out).2.2 2 p248 q248; obtain rfl : ad246 = ad248 := (by injection e248); (try simp only [show (2 : Int).toNat = 2 from rfl, Nat.reduceMul, Nat.reduceEqDiff, Go.Addr.add, ↓reduceIte] at hx248_0); have qi248 : (2 < t219.length) = True := eq_true (by omega); (try rw [show ((2 : Int)).toNat = 2 from rfl] at hx248_0); replace p248 := eq_true p248; replace q248 := eq_true q248; have p249 : 0 ≤ (1 : Int) := (by omega); have q249 : 1 < (t219.length : Int) := of_decide_eq_true (by first | (with_reducible assumption) | assumption); obtain ⟨ad249, e249, hx249_0⟩ := Kd.at_int (Kd.R_reads' HO221.out).2.2 1 p249 q249; obtain rfl : ad246 = ad249 := (by injection e249); (try simp only [show (1 : Int).toNat = 1 from rfl, Nat.reduceMul, Nat.reduceEqDiff, Go.Addr.add, ↓reduceIte] at hx249_0); have qi249 : (1 < t219.length) = True := eq_true (by omega); (try rw [show ((1 : Int)).toNat = 1 from rfl] at hx249_0); replace p249 := eq_true p249; replace q249 := eq_true q249; have p250 : 0 ≤ (0 : Int) := (by omega); have q250 : 0 < (t219.length : Int) := of_decide_eq_true (by first | (with_reducible assumption) | assumption); obtain ⟨ad250, e250, hx250_0⟩ := Kd.at_int (Kd.R_reads' HO221.out).2.2 0 p250 q250; obtain rfl : ad246 = ad250 := (by injection e250); have qi250 : (0 < t219.length) = True := eq_true (by omega); (try rw [show ((0 : Int)).toNat = 0 from rfl] at hx250_0); (try rw [Addr.add_zero'] at hx250_0); replace p250 := eq_true p250; replace q250 := eq_true q250))
                          go_ret
                          exact ⟨by first | rfl | (simp [errW_none, errW_some] <;> rfl) | (simp [*, errW_none, errW_some] <;> rfl), by repeat (first | (with_reducible first | exact HI0.out | apply IsS127.alloc | apply IsS127.drewN | apply IsS127.drew | apply IsS127.set_1 | apply IsS127.set_2 | apply IsS127.set_3) | exact HI0.out), by repeat (first | (with_reducible first | exact HB.out | apply below_alloc | apply pw_below_drewN | apply below_drew1 | refine below_set ?_ (IsS127.ge HI0.out)) | exact HB.out), by repeat (first | (with_reducible first | exact HK.out | apply KeepBut.set_ | apply keep_drewN | apply keep_drew | apply keep_alloc) | exact HK.out)⟩
                        · rw [if_neg c48] at H
                          exact absurd H (by simp)
                      · rw [if_neg c47] at H
                        exact absurd H (by simp)
                    · rw [if_neg c46] at H
                      exact absurd H (by simp)
                  · rw [if_neg c45] at H
                    exact absurd H (by simp)
                · rw [if_neg c44] at H
                  exact absurd H (by simp)
              · rw [if_neg c43] at H
                have c43b0 : ((t219.length : Int) == 5) = false := beq_eq_false_iff_ne.mpr c43
                have c43b1 : ((t219.length : Int) != 5) = true := bne_iff_ne.mpr c43
                by_cases c51 : (t219.length : Int) = 4
                · rw [if_pos c51] at H
                  have c51b0 : ((t219.length : Int) == 4) = true := beq_iff_eq.mpr c51
                  have c51b1 : ((t219.length : Int) != 4) = false := bne_eq_false_iff_eq.mpr c51
                  clear c51
                  by_cases c52 : 3 < (t219.length : Int)
                  · rw [if_pos c52] at H
                    have c52b0 : decide (3 < (t219.length : Int)) = true := decide_eq_true c52
                    have c52b1 : decide (3 < t219.length) = true := decide_eq_true (by omega)
                    clear c52
                    by_cases c53 : 2 < (t219.length : Int)
                    · rw [if_pos c53] at H
                      have c53b0 : decide (2 < (t219.length : Int)) = true := decide_eq_true c53
                      have c53b1 : decide (2 < t219.length) = true := decide_eq_true (by omega)
                      clear c53
                      by_cases c54 : 1 < (t219.length : Int)
                      · rw [if_pos c54] at H
                        have c54b0 : decide (1 < (t219.length : Int)) = true := decide_eq_true c54
                        have c54b1 : decide (1 < t219.length) = true := decide_eq_true (by omega)
                        clear c54
                        by_cases c55 : 0 < (t219.length : Int)
                        · rw [if_pos c55] at H
                          have c55b0 : decide (0 < (t219.length : Int)) = true := decide_eq_true c55
                          have c55b1 : decide (0 < t219.length) = true := decide_eq_true (by omega)
                          clear c55
                          simp only [Option.some.injEq, Prod.mk.injEq] at H
                          obtain ⟨rfl, rfl, rfl, rfl⟩ := H
                          go_wp2_with (first | ((with_reducible refine gate_callee (f := 37) rfl ?_); refine goesL_ (some 19) rfl rfl Tryd.func37 (by kernel_rfl) rfl #[.pointer (some ⟨g, 0, none⟩), .int .i64 a1] rfl (by (try simp only [List.map_toArray, List.map_cons, List.map_nil]); first | done | rfl | (simp only [List.length_drop, List.length_take]; rfl)) ?_; (with_reducible refine (num_Reader_Take.calls g s0_0 s0_1 s0_2 s0_3 a1 t219 t222 t223 t224 w0 _ ?side1 ?side2 A12.out).mono ?_); (case side1 => repeat (first | (with_reducible first | exact HI0.out | apply IsS127.alloc | apply IsS127.drewN | apply IsS127.drew | apply IsS127.set_1 | apply IsS127.set_2 | apply IsS127.set_3) | exact HI0.out)); (case side2 => repeat (first | (with_reducible first | exact HB.out | apply below_alloc | apply pw_below_drewN | apply below_drew1 | refine below_set ?_ (IsS127.ge HI0.out)) | exact HB.out)); rintro e w56 ⟨v220, rfl, ho0, hi, hb, hk⟩; refine ⟨_, rfl, ?_⟩; have n0_ := Aside0.mk (Kd.R_lower ho0 (keep_size (w := w) (g := g) (row := none) (by repeat (first | (with_reducible first | exact HK.out | apply KeepBut.set_ | apply keep_drewN | apply keep_drew | apply keep_alloc) | exact HK.out)))); have n1_ := Aside0.mk (KeepBut.trans (by repeat (first | (with_reducible first | exact HK.out | apply KeepBut.set_ | apply keep_drewN | apply keep_drew | apply keep_alloc) | exact HK.out)) hk (.inl rfl)); have n2_ := Aside0.mk (hb); have n3_ := Aside0.mk (hi); clear HK; clear HB; clear HI0; have HO221 := n0_; have HK := n1_; have HB := n2_; have HI0 := n3_; clear n0_ n1_ n2_ n3_; (try clear hb); (try clear hb2); (try clear hk); (try clear hi); (try clear ho0); obtain ⟨Ao57, co57, eo57⟩ := Kd.R_slice HO221.out; subst eo57; have p251 : 0 ≤ (3 : Int) := (by omega); have q251 : 3 < (t219.length : Int) := of_decide_eq_true (by first | (with_reducible assumption) | assumption); obtain ⟨ad251, e251, hx251_0⟩ := Kd.at_int (Kd.R_reads' HO221.out).2.2 3 p251 q251; cases e251; (try simp only [show (3 : Int).toNat = 3 from rfl, Nat.reduceMul, Nat.reduceEqDiff, Go.Addr.add, ↓reduceIte] at hx251_0); have qi251 : (3 < t219.length) = True := eq_true (by omega); (try rw [show ((3 : Int)).toNat = 3 from rfl] at hx251_0); replace p251 := eq_true p251; replace q251 := eq_true q251; have p252 : 0 ≤ (2 : Int) := (by omega); have q252 : 2 < (t219.length : Int) := of_decide_eq_true (by first | (with_reducible assumption) | assumption); obtain ⟨ad252, e252, hx252_0⟩ := Kd.at_int (Kd.R_reads' HO221.out).2.2 2 p252 q252; obtain rfl : ad251 = ad252 := (by injection e252); (try simp only [show (2 : Int).toNat = 2 from rfl, Nat.reduceMul, Nat.reduceEqDiff, Go.Addr.add, ↓reduceIte] at hx252_0); have qi252 : (2 < t219.length) = True := eq_true (by omega); (try rw [show ((2 : Int)).toNat = 2 from rfl] at hx252_0); replace p252 := eq_true p252; replace q252 := eq_true q252; have p253 : 0 ≤ (1 : Int) := (by omega); have q253 : 1 < (t219.length : Int) := of_decide_eq_true (by first | (with_reducible assumption) | assumption); obtain ⟨ad253, e253, hx253_0⟩ := Kd.at_int (Kd.R_reads' HO221.out).2.2 1 p253 q253; obtain rfl : ad251 = ad253 := (by injection e253); (try simp only [show (1 : Int).toNat = 1 from rfl, Nat.reduceMul, Nat.reduceEqDiff, Go.Addr.add, ↓reduceIte] at hx253_0); have qi253 : (1 < t219.length) = True := eq_true (by omega); (try rw [show ((1 : Int)).toNat = 1 from rfl] at hx253_0); replace p253 := eq_true p253; replace q253 := eq_true q253; have p254 : 0 ≤ (0 : Int) := (by omega); have q254 : 0 < (t219.length : Int) := of_decide_eq_true (by first | (with_reducible assumption) | assumption); obtain ⟨ad254, e254, hx254_0⟩ := Kd.at_int (Kd.R_reads' HO221.out).2.2 0 p254 q254; obtain rfl : ad251 = ad254 := (by injection e254); have qi254 : (0 < t219.length) = True := eq_true (by omega); (try rw [show ((0 : Int)).toNat = 0 from rfl] at hx254_0); (try rw [Addr.add_zero'] at hx254_0); replace p254 := eq_true p254; replace q254 := eq_true q254))
                          go_ret
                          exact ⟨by first | rfl | (simp [errW_none, errW_some] <;> rfl) | (simp [*, errW_none, errW_some] <;> rfl), by repeat (first | (with_reducible first | exact HI0.out | apply IsS127.alloc | apply IsS127.drewN | apply IsS127.drew | apply IsS127.set_1 | apply IsS127.set_2 | apply IsS127.set_3) | exact HI0.out), by repeat (first | (with_reducible first | exact HB.out | apply below_alloc | apply pw_below_drewN | apply below_drew1 | refine below_set ?_ (IsS127.ge HI0.out)) | exact HB.out), by repeat (first | (with_reducible first | exact HK.out | apply KeepBut.set_ | apply keep_drewN | apply keep_drew | apply keep_alloc) | exact HK.out)⟩
                        · rw [if_neg c55] at H
                          exact absurd H (by simp)
                      · rw [if_neg c54] at H
                        exact absurd H (by simp)
                    · rw [if_neg c53] at H
                      exact absurd H (by simp)
                  · rw [if_neg c52] at H
                    exact absurd H (by simp)
                · rw [if_neg c51] at H
                  have c51b0 : ((t219.length : Int) == 4) = false := beq_eq_false_iff_ne.mpr c51
                  have c51b1 : ((t219.length : Int) != 4) = true := bne_iff_ne.mpr c51
                  by_cases c58 : (t219.length : Int) = 3
                  · rw [if_pos c58] at H
                    have c58b0 : ((t219.length : Int) == 3) = true := beq_iff_eq.mpr c58
                    have c58b1 : ((t219.length : Int) != 3) = false := bne_eq_false_iff_eq.mpr c58
                    clear c58
                    by_cases c59 : 2 < (t219.length : Int)
                    · rw [if_pos c59] at H
                      have c59b0 : decide (2 < (t219.length : Int)) = true := decide_eq_true c59
                      have c59b1 : decide (2 < t219.length) = true := decide_eq_true (by omega)
                      clear c59
                      by_cases c60 : 1 < (t219.length : Int)
                      · rw [if_pos c60] at H
                        have c60b0 : decide (1 < (t219.length : Int)) = true := decide_eq_true c60
                        have c60b1 : decide (1 < t219.length) = true := decide_eq_true (by omega)
                        clear c60
                        by_cases c61 : 0 < (t219.length : Int)
                        · rw [if_pos c61] at H
                          have c61b0 : decide (0 < (t219.length : Int)) = true := decide_eq_true c61
                          have c61b1 : decide (0 < t219.length) = true := decide_eq_true (by omega)
                          clear c61
                          simp only [Option.some.injEq, Prod.mk.injEq] at H
                          obtain ⟨rfl, rfl, rfl, rfl⟩ := H
                          go_wp2_with (first | ((with_reducible refine gate_callee (f := 37) rfl ?_); refine goesL_ (some 19) rfl rfl Tryd.func37 (by kernel_rfl) rfl #[.pointer (some ⟨g, 0, none⟩), .int .i64 a1] rfl (by (try simp only [List.map_toArray, List.map_cons, List.map_nil]); first | done | rfl | (simp only [List.length_drop, List.length_take]; rfl)) ?_; (with_reducible refine (num_Reader_Take.calls g s0_0 s0_1 s0_2 s0_3 a1 t219 t222 t223 t224 w0 _ ?side1 ?side2 A12.out).mono ?_); (case side1 => repeat (first | (with_reducible first | exact HI0.out | apply IsS127.alloc | apply IsS127.drewN | apply IsS127.drew | apply IsS127.set_1 | apply IsS127.set_2 | apply IsS127.set_3) | exact HI0.out)); (case side2 => repeat (first | (with_reducible first | exact HB.out | apply below_alloc | apply pw_below_drewN | apply below_drew1 | refine below_set ?_ (IsS127.ge HI0.out)) | exact HB.out)); rintro e w62 ⟨v220, rfl, ho0, hi, hb, hk⟩; refine ⟨_, rfl, ?_⟩; have n0_ := Aside0.mk (Kd.R_lower ho0 (keep_size (w := w) (g := g) (row := none) (by repeat (first | (with_reducible first | exact HK.out | apply KeepBut.set_ | apply keep_drewN | apply keep_drew | apply keep_alloc) | exact HK.out)))); have n1_ := Aside0.mk (KeepBut.trans (by repeat (first | (with_reducible first | exact HK.out | apply KeepBut.set_ | apply keep_drewN | apply keep_drew | apply keep_alloc) | exact HK.out)) hk (.inl rfl)); have n2_ := Aside0.mk (hb); have n3_ := Aside0.mk (hi); clear HK; clear HB; clear HI0; have HO221 := n0_; have HK := n1_; have HB := n2_; have HI0 := n3_; clear n0_ n1_ n2_ n3_; (try clear hb); (try clear hb2); (try clear hk); (try clear hi); (try clear ho0); obtain ⟨Ao63, co63, eo63⟩ := Kd.R_slice HO221.out; subst eo63; have p255 : 0 ≤ (2 : Int) := (by omega); have q255 : 2 < (t219.length : Int) := of_decide_eq_true (by first | (with_reducible assumption) | assumption); obtain ⟨ad255, e255, hx255_0⟩ := Kd.at_int (Kd.R_reads' HO221.out).2.2 2 p255 q255; cases e255; (try simp only [show (2 : Int).toNat = 2 from rfl, Nat.reduceMul, Nat.reduceEqDiff, Go.Addr.add, ↓reduceIte] at hx255_0); have qi255 : (2 < t219.length) = True := eq_true (by omega); (try rw [show ((2 : Int)).toNat = 2 from rfl] at hx255_0); replace p255 := eq_true p255; replace q255 := eq_true q255; have p256 : 0 ≤ (1 : Int) := (by omega); have q256 : 1 < (t219.length : Int) := of_decide_eq_true (by first | (with_reducible assumption) | assumption); obtain ⟨ad256, e256, hx256_0⟩ := Kd.at_int (Kd.R_reads' HO221.out).2.2 1 p256 q256; obtain rfl : ad255 = ad256 := (by injection e256); (try simp only [show (1 : Int).toNat = 1 from rfl, Nat.reduceMul, Nat.reduceEqDiff, Go.Addr.add, ↓reduceIte] at hx256_0); have qi256 : (1 < t219.length) = True := eq_true (by omega); (try rw [show ((1 : Int)).toNat = 1 from rfl] at hx256_0); replace p256 := eq_true p256; replace q256 := eq_true q256; have p257 : 0 ≤ (0 : Int) := (by omega); have q257 : 0 < (t219.length : Int) := of_decide_eq_true (by first | (with_reducible assumption) | assumption); obtain ⟨ad257, e257, hx257_0⟩ := Kd.at_int (Kd.R_reads' HO221.out).2.2 0 p257 q257; obtain rfl : ad255 = ad257 := (by injection e257); have qi257 : (0 < t219.length) = True := eq_true (by omega); (try rw [show ((0 : Int)).toNat = 0 from rfl] at hx257_0); (try rw [Addr.add_zero'] at hx257_0); replace p257 := eq_true p257; replace q257 := eq_true q257))
                          go_ret
                          exact ⟨by first | rfl | (simp [errW_none, errW_some] <;> rfl) | (simp [*, errW_none, errW_some] <;> rfl), by repeat (first | (with_reducible first | exact HI0.out | apply IsS127.alloc | apply IsS127.drewN | apply IsS127.drew | apply IsS127.set_1 | apply IsS127.set_2 | apply IsS127.set_3) | exact HI0.out), by repeat (first | (with_reducible first | exact HB.out | apply below_alloc | apply pw_below_drewN | apply below_drew1 | refine below_set ?_ (IsS127.ge HI0.out)) | exact HB.out), by repeat (first | (with_reducible first | exact HK.out | apply KeepBut.set_ | apply keep_drewN | apply keep_drew | apply keep_alloc) | exact HK.out)⟩
                        · rw [if_neg c61] at H
                          exact absurd H (by simp)
                      · rw [if_neg c60] at H
                        exact absurd H (by simp)
                    · rw [if_neg c59] at H
                      exact absurd H (by simp)
                  · rw [if_neg c58] at H
                    have c58b0 : ((t219.length : Int) == 3) = false := beq_eq_false_iff_ne.mpr c58
                    have c58b1 : ((t219.length : Int) != 3) = true := bne_iff_ne.mpr c58
                    by_cases c64 : (t219.length : Int) = 2
                    · rw [if_pos c64] at H
                      have c64b0 : ((t219.length : Int) == 2) = true := beq_iff_eq.mpr c64
                      have c64b1 : ((t219.length : Int) != 2) = false := bne_eq_false_iff_eq.mpr c64
                      clear c64
                      by_cases c65 : 1 < (t219.length : Int)
                      · rw [if_pos c65] at H
                        have c65b0 : decide (1 < (t219.length : Int)) = true := decide_eq_true c65
                        have c65b1 : decide (1 < t219.length) = true := decide_eq_true (by omega)
                        clear c65
                        by_cases c66 : 0 < (t219.length : Int)
                        · rw [if_pos c66] at H
                          have c66b0 : decide (0 < (t219.length : Int)) = true := decide_eq_true c66
                          have c66b1 : decide (0 < t219.length) = true := decide_eq_true (by omega)
                          clear c66
                          simp only [Option.some.injEq, Prod.mk.injEq] at H
                          obtain ⟨rfl, rfl, rfl, rfl⟩ := H
                          go_wp2_with (first | ((with_reducible refine gate_callee (f := 37) rfl ?_); refine goesL_ (some 19) rfl rfl Tryd.func37 (by kernel_rfl) rfl #[.pointer (some ⟨g, 0, none⟩), .int .i64 a1] rfl (by (try simp only [List.map_toArray, List.map_cons, List.map_nil]); first | done | rfl | (simp only [List.length_drop, List.length_take]; rfl)) ?_; (with_reducible refine (num_Reader_Take.calls g s0_0 s0_1 s0_2 s0_3 a1 t219 t222 t223 t224 w0 _ ?side1 ?side2 A12.out).mono ?_); (case side1 => repeat (first | (with_reducible first | exact HI0.out | apply IsS127.alloc | apply IsS127.drewN | apply IsS127.drew | apply IsS127.set_1 | apply IsS127.set_2 | apply IsS127.set_3) | exact HI0.out)); (case side2 => repeat (first | (with_reducible first | exact HB.out | apply below_alloc | apply pw_below_drewN | apply below_drew1 | refine below_set ?_ (IsS127.ge HI0.out)) | exact HB.out)); rintro e w67 ⟨v220, rfl, ho0, hi, hb, hk⟩; refine ⟨_, rfl, ?_⟩; have n0_ := Aside0.mk (Kd.R_lower ho0 (keep_size (w := w) (g := g) (row := none) (by repeat (first | (with_reducible first | exact HK.out | apply KeepBut.set_ | apply keep_drewN | apply keep_drew | apply keep_alloc) | exact HK.out)))); have n1_ := Aside0.mk (KeepBut.trans (by repeat (first | (with_reducible first | exact HK.out | apply KeepBut.set_ | apply keep_drewN | apply keep_drew | apply keep_alloc) | exact HK.out)) hk (.inl rfl)); have n2_ := Aside0.mk (hb); have n3_ := Aside0.mk (hi); clear HK; clear HB; clear HI0; have HO221 := n0_; have HK := n1_; have HB := n2_; have HI0 := n3_; clear n0_ n1_ n2_ n3_; (try clear hb); (try clear hb2); (try clear hk); (try clear hi); (try clear ho0); obtain ⟨Ao68, co68, eo68⟩ := Kd.R_slice HO221.out; subst eo68; have p258 : 0 ≤ (1 : Int) := (by omega); have q258 : 1 < (t219.length : Int) := of_decide_eq_true (by first | (with_reducible assumption) | assumption); obtain ⟨ad258, e258, hx258_0⟩ := Kd.at_int (Kd.R_reads' HO221.out).2.2 1 p258 q258; cases e258; (try simp only [show (1 : Int).toNat = 1 from rfl, Nat.reduceMul, Nat.reduceEqDiff, Go.Addr.add, ↓reduceIte] at hx258_0); have qi258 : (1 < t219.length) = True := eq_true (by omega); (try rw [show ((1 : Int)).toNat = 1 from rfl] at hx258_0); replace p258 := eq_true p258; replace q258 := eq_true q258; have p259 : 0 ≤ (0 : Int) := (by omega); have q259 : 0 < (t219.length : Int) := of_decide_eq_true (by first | (with_reducible assumption) | assumption); obtain ⟨ad259, e259, hx259_0⟩ := Kd.at_int (Kd.R_reads' HO221.out).2.2 0 p259 q259; obtain rfl : ad258 = ad259 := (by injection e259); have qi259 : (0 < t219.length) = True := eq_true (by omega); (try rw [show ((0 : Int)).toNat = 0 from rfl] at hx259_0); (try rw [Addr.add_zero'] at hx259_0); replace p259 := eq_true p259; replace q259 := eq_true q259))
                          go_ret
                          exact ⟨by first | rfl | (simp [errW_none, errW_some] <;> rfl) | (simp [*, errW_none, errW_some] <;> rfl), by repeat (first | (with_reducible first | exact HI0.out | apply IsS127.alloc | apply IsS127.drewN | apply IsS127.drew | apply IsS127.set_1 | apply IsS127.set_2 | apply IsS127.set_3) | exact HI0.out), by repeat (first | (with_reducible first | exact HB.out | apply below_alloc | apply pw_below_drewN | apply below_drew1 | refine below_set ?_ (IsS127.ge HI0.out)) | exact HB.out), by repeat (first | (with_reducible first | exact HK.out | apply KeepBut.set_ | apply keep_drewN | apply keep_drew | apply keep_alloc) | exact HK.out)⟩
                        · rw [if_neg c66] at H
                          exact absurd H (by simp)
                      · rw [if_neg c65] at H
                        exact absurd H (by simp)
                    · rw [if_neg c64] at H
                      have c64b0 : ((t219.length : Int) == 2) = false := beq_eq_false_iff_ne.mpr c64
                      have c64b1 : ((t219.length : Int) != 2) = true := bne_iff_ne.mpr c64
                      by_cases c69 : (t219.length : Int) = 1
                      · rw [if_pos c69] at H
                        have c69b0 : ((t219.length : Int) == 1) = true := beq_iff_eq.mpr c69
                        have c69b1 : ((t219.length : Int) != 1) = false := bne_eq_false_iff_eq.mpr c69
                        clear c69
                        by_cases c70 : 0 < (t219.length : Int)
                        · rw [if_pos c70] at H
                          have c70b0 : decide (0 < (t219.length : Int)) = true := decide_eq_true c70
                          have c70b1 : decide (0 < t219.length) = true := decide_eq_true (by omega)
                          clear c70
                          simp only [Option.some.injEq, Prod.mk.injEq] at H
                          obtain ⟨rfl, rfl, rfl, rfl⟩ := H
                          go_wp2_with (first | ((with_reducible refine gate_callee (f := 37) rfl ?_); refine goesL_ (some 19) rfl rfl Tryd.func37 (by kernel_rfl) rfl #[.pointer (some ⟨g, 0, none⟩), .int .i64 a1] rfl (by (try simp only [List.map_toArray, List.map_cons, List.map_nil]); first | done | rfl | (simp only [List.length_drop, List.length_take]; rfl)) ?_; (with_reducible refine (num_Reader_Take.calls g s0_0 s0_1 s0_2 s0_3 a1 t219 t222 t223 t224 w0 _ ?side1 ?side2 A12.out).mono ?_); (case side1 => repeat (first | (with_reducible first | exact HI0.out | apply IsS127.alloc | apply IsS127.drewN | apply IsS127.drew | apply IsS127.set_1 | apply IsS127.set_2 | apply IsS127.set_3) | exact HI0.out)); (case side2 => repeat (first | (with_reducible first | exact HB.out | apply below_alloc | apply pw_below_drewN | apply below_drew1 | refine below_set ?_ (IsS127.ge HI0.out)) | exact HB.out)); rintro e w71 ⟨v220, rfl, ho0, hi, hb, hk⟩; refine ⟨_, rfl, ?_⟩; have n0_ := Aside0.mk (Kd.R_lower ho0 (keep_size (w := w) (g := g) (row := none) (by repeat (first | (with_reducible first | exact HK.out | apply KeepBut.set_ | apply keep_drewN | apply keep_drew | apply keep_alloc) | exact HK.out)))); have n1_ := Aside0.mk (KeepBut.trans (by repeat (first | (with_reducible first | exact HK.out | apply KeepBut.set_ | apply keep_drewN | apply keep_drew | apply keep_alloc) | exact HK.out)) hk (.inl rfl)); have n2_ := Aside0.mk (hb); have n3_ := Aside0.mk (hi); clear HK; clear HB; clear HI0; have HO221 := n0_; have HK := n1_; have HB := n2_; have HI0 := n3_; clear n0_ n1_ n2_ n3_; (try clear hb); (try clear hb2); (try clear hk); (try clear hi); (try clear ho0); obtain ⟨Ao72, co72, eo72⟩ := Kd.R_slice HO221.out; subst eo72; have p260 : 0 ≤ (0 : Int) := (by omega); have q260 : 0 < (t219.length : Int) := of_decide_eq_true (by first | (with_reducible assumption) | assumption); obtain ⟨ad260, e260, hx260_0⟩ := Kd.at_int (Kd.R_reads' HO221.out).2.2 0 p260 q260; cases e260; have qi260 : (0 < t219.length) = True := eq_true (by omega); (try rw [show ((0 : Int)).toNat = 0 from rfl] at hx260_0); (try rw [Addr.add_zero'] at hx260_0); replace p260 := eq_true p260; replace q260 := eq_true q260))
                          go_ret
                          exact ⟨by first | rfl | (simp [errW_none, errW_some] <;> rfl) | (simp [*, errW_none, errW_some] <;> rfl), by repeat (first | (with_reducible first | exact HI0.out | apply IsS127.alloc | apply IsS127.drewN | apply IsS127.drew | apply IsS127.set_1 | apply IsS127.set_2 | apply IsS127.set_3) | exact HI0.out), by repeat (first | (with_reducible first | exact HB.out | apply below_alloc | apply pw_below_drewN | apply below_drew1 | refine below_set ?_ (IsS127.ge HI0.out)) | exact HB.out), by repeat (first | (with_reducible first | exact HK.out | apply KeepBut.set_ | apply keep_drewN | apply keep_drew | apply keep_alloc) | exact HK.out)⟩
                        · rw [if_neg c70] at H
                          exact absurd H (by simp)
                      · rw [if_neg c69] at H
                        have c69b0 : ((t219.length : Int) == 1) = false := beq_eq_false_iff_ne.mpr c69
                        have c69b1 : ((t219.length : Int) != 1) = true := bne_iff_ne.mpr c69
                        simp only [Option.some.injEq, Prod.mk.injEq] at H
                        obtain ⟨rfl, rfl, rfl, rfl⟩ := H
                        go_wp2_with (first | ((with_reducible refine gate_callee (f := 37) rfl ?_); refine goesL_ (some 19) rfl rfl Tryd.func37 (by kernel_rfl) rfl #[.pointer (some ⟨g, 0, none⟩), .int .i64 a1] rfl (by (try simp only [List.map_toArray, List.map_cons, List.map_nil]); first | done | rfl | (simp only [List.length_drop, List.length_take]; rfl)) ?_; (with_reducible refine (num_Reader_Take.calls g s0_0 s0_1 s0_2 s0_3 a1 t219 t222 t223 t224 w0 _ ?side1 ?side2 A12.out).mono ?_); (case side1 => repeat (first | (with_reducible first | exact HI0.out | apply IsS127.alloc | apply IsS127.drewN | apply IsS127.drew | apply IsS127.set_1 | apply IsS127.set_2 | apply IsS127.set_3) | exact HI0.out)); (case side2 => repeat (first | (with_reducible first | exact HB.out | apply below_alloc | apply pw_below_drewN | apply below_drew1 | refine below_set ?_ (IsS127.ge HI0.out)) | exact HB.out)); rintro e w73 ⟨v220, rfl, ho0, hi, hb, hk⟩; refine ⟨_, rfl, ?_⟩; have n0_ := Aside0.mk (Kd.R_lower ho0 (keep_size (w := w) (g := g) (row := none) (by repeat (first | (with_reducible first | exact HK.out | apply KeepBut.set_ | apply keep_drewN | apply keep_drew | apply keep_alloc) | exact HK.out)))); have n1_ := Aside0.mk (KeepBut.trans (by repeat (first | (with_reducible first | exact HK.out | apply KeepBut.set_ | apply keep_drewN | apply keep_drew | apply keep_alloc) | exact HK.out)) hk (.inl rfl)); have n2_ := Aside0.mk (hb); have n3_ := Aside0.mk (hi); clear HK; clear HB; clear HI0; have HO221 := n0_; have HK := n1_; have HB := n2_; have HI0 := n3_; clear n0_ n1_ n2_ n3_; (try clear hb); (try clear hb2); (try clear hk); (try clear hi); (try clear ho0); obtain ⟨Ao74, co74, eo74⟩ := Kd.R_slice HO221.out; subst eo74))
                        go_ret
                        exact ⟨by first | rfl | (simp [errW_none, errW_some] <;> rfl) | (simp [*, errW_none, errW_some] <;> rfl), by repeat (first | (with_reducible first | exact HI0.out | apply IsS127.alloc | apply IsS127.drewN | apply IsS127.drew | apply IsS127.set_1 | apply IsS127.set_2 | apply IsS127.set_3) | exact HI0.out), by repeat (first | (with_reducible first | exact HB.out | apply below_alloc | apply pw_below_drewN | apply below_drew1 | refine below_set ?_ (IsS127.ge HI0.out)) | exact HB.out), by repeat (first | (with_reducible first | exact HK.out | apply KeepBut.set_ | apply keep_drewN | apply keep_drew | apply keep_alloc) | exact HK.out)⟩

end Go.Proofs.YtbkocklahdlgkaaDoor.PTextsBack
