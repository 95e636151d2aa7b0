/- WRITTEN BY A PROGRAM of this session (wip/tool: a turned copy of the printer), out of the translation: Lean functions with the answers of the Go functions, and the proofs that the Go code comes to them. -/
import Derived.Test.YtjmhfbgpebgcmaaDoorPNumBackx0
import Derived.Test.YtjmhfbgpebgcmaaDoorPNumBackx1
import Derived.Test.YtjmhfbgpebgcmaaDoorPNumBackx2
namespace Go.Proofs.YtjmhfbgpebgcmaaDoor.PNumBack
open Go.RowKit Go.Proofs.YtjmhfbgpebgcmaaDoorW.PrintWords Go.Proofs.YtjmhfbgpebgcmaaDoorW.PrintLast Go.Proofs.YtjmhfbgpebgcmaaDoorW.PrintMore
attribute [local go_sem] max2_int min2_int max_two min_two max_three min_three max_four min_four   -- for this text's walks alone
set_option linter.unusedVariables false
set_option linter.unusedSimpArgs false

/-! ### num_Reader_Fix: function 18 -/
def num_Reader_Fix.j0 : Nat → Int → Bool → List Int → Int → Int → Int → Option (Int × Int × Int × Int)
  | 0, _, _, _, _, _, _ => none
  | k + 1, x1, x12, x1000, x1001, x1002, x1003 => if x12 = true then ((num_Reader_ok.f x1000 x1001 x1002 x1003).bind fun bt108 => (if bt108.1 = true then ((num_Reader_Fail.f x1000 bt108.2.1 bt108.2.2.1 bt108.2.2.2 1).bind fun bt112 => (some (0, bt112.1, bt112.2.1, bt112.2.2))) else (some (0, bt108.2.1, bt108.2.2.1, bt108.2.2.2)))) else ((num_Reader_Take.f x1000 x1001 x1002 x1003 x1).bind fun bt115 => (if (bt115.1.length : Int) = 8 then (if 7 < (bt115.1.length : Int) then (if 6 < (bt115.1.length : Int) then (if 5 < (bt115.1.length : Int) then (if 4 < (bt115.1.length : Int) then (if 3 < (bt115.1.length : Int) then (if 2 < (bt115.1.length : Int) then (if 1 < (bt115.1.length : Int) then (if 0 < (bt115.1.length : Int) then (some (Go.bits .or .u64 (Go.bits .or .u64 (Go.bits .or .u64 (Go.bits .or .u64 (Go.bits .or .u64 (Go.bits .or .u64 (Go.bits .or .u64 (Go.bits .or .u64 0 (IntKind.u64.wrap ((IntKind.u64.wrap (rd bt115.1 7)) * 72057594037927936))) (IntKind.u64.wrap ((IntKind.u64.wrap (rd bt115.1 6)) * 281474976710656))) (IntKind.u64.wrap ((IntKind.u64.wrap (rd bt115.1 5)) * 1099511627776))) (IntKind.u64.wrap ((IntKind.u64.wrap (rd bt115.1 4)) * 4294967296))) (IntKind.u64.wrap ((IntKind.u64.wrap (rd bt115.1 3)) * 16777216))) (IntKind.u64.wrap ((IntKind.u64.wrap (rd bt115.1 2)) * 65536))) (IntKind.u64.wrap ((IntKind.u64.wrap (rd bt115.1 1)) * 256))) (IntKind.u64.wrap (rd bt115.1 0)), bt115.2.1, bt115.2.2.1, bt115.2.2.2)) else (none)) else (none)) else (none)) else (none)) else (none)) else (none)) else (none)) else (none)) else (if (bt115.1.length : Int) = 7 then (if 6 < (bt115.1.length : Int) then (if 5 < (bt115.1.length : Int) then (if 4 < (bt115.1.length : Int) then (if 3 < (bt115.1.length : Int) then (if 2 < (bt115.1.length : Int) then (if 1 < (bt115.1.length : Int) then (if 0 < (bt115.1.length : Int) then (some (Go.bits .or .u64 (Go.bits .or .u64 (Go.bits .or .u64 (Go.bits .or .u64 (Go.bits .or .u64 (Go.bits .or .u64 (Go.bits .or .u64 0 (IntKind.u64.wrap ((IntKind.u64.wrap (rd bt115.1 6)) * 281474976710656))) (IntKind.u64.wrap ((IntKind.u64.wrap (rd bt115.1 5)) * 1099511627776))) (IntKind.u64.wrap ((IntKind.u64.wrap (rd bt115.1 4)) * 4294967296))) (IntKind.u64.wrap ((IntKind.u64.wrap (rd bt115.1 3)) * 16777216))) (IntKind.u64.wrap ((IntKind.u64.wrap (rd bt115.1 2)) * 65536))) (IntKind.u64.wrap ((IntKind.u64.wrap (rd bt115.1 1)) * 256))) (IntKind.u64.wrap (rd bt115.1 0)), bt115.2.1, bt115.2.2.1, bt115.2.2.2)) else (none)) else (none)) else (none)) else (none)) else (none)) else (none)) else (none)) else (if (bt115.1.length : Int) = 6 then (if 5 < (bt115.1.length : Int) then (if 4 < (bt115.1.length : Int) then (if 3 < (bt115.1.length : Int) then (if 2 < (bt115.1.length : Int) then (if 1 < (bt115.1.length : Int) then (if 0 < (bt115.1.length : Int) then (some (Go.bits .or .u64 (Go.bits .or .u64 (Go.bits .or .u64 (Go.bits .or .u64 (Go.bits .or .u64 (Go.bits .or .u64 0 (IntKind.u64.wrap ((IntKind.u64.wrap (rd bt115.1 5)) * 1099511627776))) (IntKind.u64.wrap ((IntKind.u64.wrap (rd bt115.1 4)) * 4294967296))) (IntKind.u64.wrap ((IntKind.u64.wrap (rd bt115.1 3)) * 16777216))) (IntKind.u64.wrap ((IntKind.u64.wrap (rd bt115.1 2)) * 65536))) (IntKind.u64.wrap ((IntKind.u64.wrap (rd bt115.1 1)) * 256))) (IntKind.u64.wrap (rd bt115.1 0)), bt115.2.1, bt115.2.2.1, bt115.2.2.2)) else (none)) else (none)) else (none)) else (none)) else (none)) else (none)) else (if (bt115.1.length : Int) = 5 then (if 4 < (bt115.1.length : Int) then (if 3 < (bt115.1.length : Int) then (if 2 < (bt115.1.length : Int) then (if 1 < (bt115.1.length : Int) then (if 0 < (bt115.1.length : Int) then (some (Go.bits .or .u64 (Go.bits .or .u64 (Go.bits .or .u64 (Go.bits .or .u64 (Go.bits .or .u64 0 (IntKind.u64.wrap ((IntKind.u64.wrap (rd bt115.1 4)) * 4294967296))) (IntKind.u64.wrap ((IntKind.u64.wrap (rd bt115.1 3)) * 16777216))) (IntKind.u64.wrap ((IntKind.u64.wrap (rd bt115.1 2)) * 65536))) (IntKind.u64.wrap ((IntKind.u64.wrap (rd bt115.1 1)) * 256))) (IntKind.u64.wrap (rd bt115.1 0)), bt115.2.1, bt115.2.2.1, bt115.2.2.2)) else (none)) else (none)) else (none)) else (none)) else (none)) else (if (bt115.1.length : Int) = 4 then (if 3 < (bt115.1.length : Int) then (if 2 < (bt115.1.length : Int) then (if 1 < (bt115.1.length : Int) then (if 0 < (bt115.1.length : Int) then (some (Go.bits .or .u64 (Go.bits .or .u64 (Go.bits .or .u64 (Go.bits .or .u64 0 (IntKind.u64.wrap ((IntKind.u64.wrap (rd bt115.1 3)) * 16777216))) (IntKind.u64.wrap ((IntKind.u64.wrap (rd bt115.1 2)) * 65536))) (IntKind.u64.wrap ((IntKind.u64.wrap (rd bt115.1 1)) * 256))) (IntKind.u64.wrap (rd bt115.1 0)), bt115.2.1, bt115.2.2.1, bt115.2.2.2)) else (none)) else (none)) else (none)) else (none)) else (if (bt115.1.length : Int) = 3 then (if 2 < (bt115.1.length : Int) then (if 1 < (bt115.1.length : Int) then (if 0 < (bt115.1.length : Int) then (some (Go.bits .or .u64 (Go.bits .or .u64 (Go.bits .or .u64 0 (IntKind.u64.wrap ((IntKind.u64.wrap (rd bt115.1 2)) * 65536))) (IntKind.u64.wrap ((IntKind.u64.wrap (rd bt115.1 1)) * 256))) (IntKind.u64.wrap (rd bt115.1 0)), bt115.2.1, bt115.2.2.1, bt115.2.2.2)) else (none)) else (none)) else (none)) else (if (bt115.1.length : Int) = 2 then (if 1 < (bt115.1.length : Int) then (if 0 < (bt115.1.length : Int) then (some (Go.bits .or .u64 (Go.bits .or .u64 0 (IntKind.u64.wrap ((IntKind.u64.wrap (rd bt115.1 1)) * 256))) (IntKind.u64.wrap (rd bt115.1 0)), bt115.2.1, bt115.2.2.1, bt115.2.2.2)) else (none)) else (none)) else (if (bt115.1.length : Int) = 1 then (if 0 < (bt115.1.length : Int) then (some (Go.bits .or .u64 0 (IntKind.u64.wrap (rd bt115.1 0)), bt115.2.1, bt115.2.2.1, bt115.2.2.2)) else (none)) else (some (0, bt115.2.1, bt115.2.2.1, bt115.2.2.2)))))))))))
def num_Reader_Fix.f (k : Nat) (s0_0 : List Int) (s0_1 : Int) (s0_2 : Int) (s0_3 : Int) (a1 : Int) : Option (Int × Int × Int × Int) := if a1 < 0 then (num_Reader_Fix.j0 k a1 true s0_0 s0_1 s0_2 s0_3) else (num_Reader_Fix.j0 k a1 (decide (a1 > 8)) s0_0 s0_1 s0_2 s0_3)
theorem num_Reader_Fix.mono_l : ∀ k, (∀ y0 y1 y2 y3 y4 y5, LeO (num_Reader_Fix.j0 k y0 y1 y2 y3 y4 y5) (num_Reader_Fix.j0 (k + 1) y0 y1 y2 y3 y4 y5))
  | 0 => fun _ _ _ _ _ _ r h => by simp [num_Reader_Fix.j0] at h
  | k + 1 => by
    have ih0 := num_Reader_Fix.mono_l k
    · intro y0 y1 y2 y3 y4 y5
      unfold num_Reader_Fix.j0
      repeat' first
      | (with_reducible exact ih0 _ _ _ _ _ _)
      | (with_reducible exact LeO.refl _)
      | (with_reducible exact LeO.none _)
      | (with_reducible refine LeO.ite ?_ ?_)
      | (with_reducible refine LeO.bind ?_ (fun _ => ?_))
      | exact ih0 _ _ _ _ _ _
      | exact LeO.none _
      | refine LeO.ite ?_ ?_
      | refine LeO.bind ?_ (fun _ => ?_)
theorem num_Reader_Fix.mono : ∀ a0 a1 a2 a3 a4 k, LeO (num_Reader_Fix.f k a0 a1 a2 a3 a4) (num_Reader_Fix.f (k + 1) a0 a1 a2 a3 a4) := by
  intro a0 a1 a2 a3 a4 k
  have ih0 := num_Reader_Fix.mono_l k
  unfold num_Reader_Fix.f
  repeat' first
      | (with_reducible exact ih0 _ _ _ _ _ _)
      | (with_reducible exact LeO.refl _)
      | (with_reducible exact LeO.none _)
      | (with_reducible refine LeO.ite ?_ ?_)
      | (with_reducible refine LeO.bind ?_ (fun _ => ?_))
      | exact ih0 _ _ _ _ _ _
      | exact LeO.none _
      | refine LeO.ite ?_ ?_
      | refine LeO.bind ?_ (fun _ => ?_)
set_option maxHeartbeats 8000000 in
set_option maxRecDepth 100000 in
theorem num_Reader_Fix.calls (k : Nat) (g : Nat) (s0_0 : List Int) (s0_1 : Int) (s0_2 : Int) (s0_3 : Int) (a1 : Int) (r1 : Int) (r2 : Int) (r3 : Int) (r4 : Int) (w0 w : World) (hI : IsS71 w0 w g s0_0 s0_1 s0_2 s0_3) (hB : Below w0.heap.size w0 w) (h : num_Reader_Fix.f k s0_0 s0_1 s0_2 s0_3 a1 = some (r1, r2, r3, r4)) :
    Calls Tryd.prog 18 #[.pointer (some ⟨g, 0, none⟩), .int .i64 a1] w fun e w' => e = .returned (.int .u64 r1) ∧ IsS71 w0 w' g s0_0 r2 r3 r4 ∧ Below w0.heap.size w0 w' ∧ KeepBut w w' g none := by
  have HI0 := Aside0.mk hI
  have HK := Aside0.mk (KeepBut.refl w g none)
  have HL := Aside0.mk hB.size
  clear hI
  have HW0 := Aside0.mk hB.size
  have HB := Aside0.mk hB
  clear hB
  have H : (if a1 < 0 then (num_Reader_Fix.j0 k a1 true s0_0 s0_1 s0_2 s0_3) else (num_Reader_Fix.j0 k a1 (decide (a1 > 8)) s0_0 s0_1 s0_2 s0_3)) = some (r1, r2, r3, r4) := h
  clear h
  have HC3 := Aside0.mk H
  clear H
  go_enter Tryd.func18, Tryd.ntmps18
  go_upto_region 1 with (fail)
  go_cut [12] (fun v12 wc => ∃ (kq : Nat) (x12_2 : Bool), v12 = .bool x12_2 ∧ Aside0 (num_Reader_Fix.j0 kq a1 x12_2 s0_0 s0_1 s0_2 s0_3 = some (r1, r2, r3, r4)) ∧ Aside0 (kq ≤ k) ∧ Aside0 (IsS71 w0 wc g s0_0 s0_1 s0_2 s0_3) ∧ Aside0 (KeepBut w wc g none) ∧ Aside0 (Below w0.heap.size w0 wc))
  case first =>
    have H := HC3.out
    clear HC3
    by_cases c4 : a1 < 0
    · rw [if_pos c4] at H
      have c4b0 : decide (a1 < 0) = true := decide_eq_true c4
      clear c4
      (first | rw [c4b0] | (simp only [i64_w, i32_w]; rw [c4b0]) | skip)
      have H' := Aside0.mk H
      clear H
      go_wp2
      go_meet
      case rel => exact ⟨_, (true), (by first | rfl | (simp; done) | (simp [*]; done)), H', ⟨by first | omega | exact Nat.le_refl _⟩, ⟨by repeat (first | (with_reducible first | exact HI0.out | apply IsS71.alloc | apply IsS71.drewN | apply IsS71.drew | apply IsS71.set_1 | apply IsS71.set_2 | apply IsS71.set_3) | exact HI0.out)⟩, ⟨by repeat (first | (with_reducible first | exact HK.out | apply KeepBut.set_ | apply keep_drewN | apply keep_drew | apply keep_alloc) | exact HK.out)⟩, ⟨by repeat (first | (with_reducible first | exact HB.out | apply below_alloc | apply pw_below_drewN | apply below_drew1 | refine below_set ?_ (IsS71.ge HI0.out)) | exact HB.out)⟩⟩
    · rw [if_neg c4] at H
      have c4b0 : decide (a1 < 0) = false := decide_eq_false c4
      clear c4
      (first | rw [c4b0] | (simp only [i64_w, i32_w]; rw [c4b0]) | skip)
      have H' := Aside0.mk H
      clear H
      go_wp2
      go_meet
      case rel => exact ⟨_, (decide (a1 > 8)), (by first | rfl | (simp; done) | (simp [*]; done)), H', ⟨by first | omega | exact Nat.le_refl _⟩, ⟨by repeat (first | (with_reducible first | exact HI0.out | apply IsS71.alloc | apply IsS71.drewN | apply IsS71.drew | apply IsS71.set_1 | apply IsS71.set_2 | apply IsS71.set_3) | exact HI0.out)⟩, ⟨by repeat (first | (with_reducible first | exact HK.out | apply KeepBut.set_ | apply keep_drewN | apply keep_drew | apply keep_alloc) | exact HK.out)⟩, ⟨by repeat (first | (with_reducible first | exact HB.out | apply below_alloc | apply pw_below_drewN | apply below_drew1 | refine below_set ?_ (IsS71.ge HI0.out)) | exact HB.out)⟩⟩
  case rest =>
    clear HC3
    try clear c1
    try clear p2
    try clear c4
    try clear c4b0
    obtain ⟨kq, x12_2, rfl, HA, HJ2, HI0, HK, HB⟩ := hcut
    cases kq with
    | zero => exact absurd HA.out (by simp [num_Reader_Fix.j0])
    | succ kj2 =>
      have H := HA.out
      clear HA
      simp only [num_Reader_Fix.j0] at H
      by_cases c5 : x12_2 = true
      · subst c5
        have H1 : ((num_Reader_ok.f s0_0 s0_1 s0_2 s0_3).bind fun bt108 => (if bt108.1 = true then ((num_Reader_Fail.f s0_0 bt108.2.1 bt108.2.2.1 bt108.2.2.2 1).bind fun bt112 => (some (0, bt112.1, bt112.2.1, bt112.2.2))) else (some (0, bt108.2.1, bt108.2.2.1, bt108.2.2.2)))) = some (r1, r2, r3, r4) := by rw [if_pos rfl] at H; exact H
        clear H
        have H := H1
        clear H1
        replace H := Option.bind_eq_some_iff.mp H
        obtain ⟨⟨t108, t109, t110, t111⟩, A60, H⟩ := H
        replace H : (if t108 = true then ((num_Reader_Fail.f s0_0 t109 t110 t111 1).bind fun bt112 => (some (0, bt112.1, bt112.2.1, bt112.2.2))) else (some (0, t109, t110, t111))) = some (r1, r2, r3, r4) := H
        have A6 := Aside0.mk A60
        clear A60
        by_cases c7 : t108 = true
        · subst c7
          have H1 : ((num_Reader_Fail.f s0_0 t109 t110 t111 1).bind fun bt112 => (some (0, bt112.1, bt112.2.1, bt112.2.2))) = some (r1, r2, r3, r4) := by rw [if_pos rfl] at H; exact H
          clear H
          have H := H1
          clear H1
          replace H := Option.bind_eq_some_iff.mp H
          obtain ⟨⟨t112, t113, t114⟩, A80, H⟩ := H
          replace H : (some (0, t112, t113, t114)) = some (r1, r2, r3, r4) := H
          have A8 := Aside0.mk A80
          clear A80
          simp only [Option.some.injEq, Prod.mk.injEq] at H
          obtain ⟨rfl, rfl, rfl, rfl⟩ := H
          go_wp2_with (first | ((with_reducible refine gate_callee (f := 49) rfl ?_); refine goesL_ (some 14) rfl rfl Tryd.func49 (by kernel_rfl) rfl #[.pointer (some ⟨g, 0, none⟩)] rfl (by (try simp only [List.map_toArray, List.map_cons, List.map_nil]); first | done | rfl | (simp only [List.length_drop, List.length_take]; rfl)) ?_; (with_reducible refine (num_Reader_ok.calls g s0_0 s0_1 s0_2 s0_3 true t109 t110 t111 w0 _ ?side1 ?side2 A6.out).mono ?_); (case side1 => repeat (first | (with_reducible first | exact HI0.out | apply IsS71.alloc | apply IsS71.drewN | apply IsS71.drew | apply IsS71.set_1 | apply IsS71.set_2 | apply IsS71.set_3) | exact HI0.out)); (case side2 => repeat (first | (with_reducible first | exact HB.out | apply below_alloc | apply pw_below_drewN | apply below_drew1 | refine below_set ?_ (IsS71.ge HI0.out)) | exact HB.out)); rintro e w9 ⟨rfl, hi, hb, hk⟩; refine ⟨_, rfl, ?_⟩; have n0_ := Aside0.mk (KeepBut.trans (by repeat (first | (with_reducible first | exact HK.out | apply KeepBut.set_ | apply keep_drewN | apply keep_drew | apply keep_alloc) | exact HK.out)) hk (.inl rfl)); have n1_ := Aside0.mk (hb); have n2_ := Aside0.mk (hi); clear HK; clear HB; clear HI0; have HK := n0_; have HB := n1_; have HI0 := n2_; clear n0_ n1_ n2_; (try clear hb); (try clear hb2); (try clear hk); (try clear hi)) | ((with_reducible refine gate_callee (f := 17) rfl ?_); refine goesL_ (some 16) rfl rfl Tryd.func17 (by kernel_rfl) rfl #[.pointer (some ⟨g, 0, none⟩), .int .i64 1] rfl (by (try simp only [List.map_toArray, List.map_cons, List.map_nil]); first | done | rfl | (simp only [List.length_drop, List.length_take]; rfl)) ?_; (with_reducible refine (num_Reader_Fail.calls g s0_0 t109 t110 t111 1 t112 t113 t114 w0 _ ?side1 ?side2 A8.out).mono ?_); (case side1 => repeat (first | (with_reducible first | exact HI0.out | apply IsS71.alloc | apply IsS71.drewN | apply IsS71.drew | apply IsS71.set_1 | apply IsS71.set_2 | apply IsS71.set_3) | exact HI0.out)); (case side2 => repeat (first | (with_reducible first | exact HB.out | apply below_alloc | apply pw_below_drewN | apply below_drew1 | refine below_set ?_ (IsS71.ge HI0.out)) | exact HB.out)); rintro e w10 ⟨rfl, hi, hb, hk⟩; refine ⟨_, rfl, ?_⟩; have n0_ := Aside0.mk (KeepBut.trans (by repeat (first | (with_reducible first | exact HK.out | apply KeepBut.set_ | apply keep_drewN | apply keep_drew | apply keep_alloc) | exact HK.out)) hk (.inl rfl)); have n1_ := Aside0.mk (hb); have n2_ := Aside0.mk (hi); clear HK; clear HB; clear HI0; have HK := n0_; have HB := n1_; have HI0 := n2_; clear n0_ n1_ n2_; (try clear hb); (try clear hb2); (try clear hk); (try clear hi)))
          go_ret
          exact ⟨by first | rfl | (simp [errW_none, errW_some] <;> rfl) | (simp [*, errW_none, errW_some] <;> rfl), by repeat (first | (with_reducible first | exact HI0.out | apply IsS71.alloc | apply IsS71.drewN | apply IsS71.drew | apply IsS71.set_1 | apply IsS71.set_2 | apply IsS71.set_3) | exact HI0.out), by repeat (first | (with_reducible first | exact HB.out | apply below_alloc | apply pw_below_drewN | apply below_drew1 | refine below_set ?_ (IsS71.ge HI0.out)) | exact HB.out), by repeat (first | (with_reducible first | exact HK.out | apply KeepBut.set_ | apply keep_drewN | apply keep_drew | apply keep_alloc) | exact HK.out)⟩
        · replace c7 := Bool.eq_false_iff.mpr c7
          subst c7
          have H1 : (some (0, t109, t110, t111)) = some (r1, r2, r3, r4) := by rw [if_neg (show ¬ (false = true) by decide)] at H; exact H
          clear H
          have H := H1
          clear H1
          simp only [Option.some.injEq, Prod.mk.injEq] at H
          obtain ⟨rfl, rfl, rfl, rfl⟩ := H
          go_wp2_with (first | ((with_reducible refine gate_callee (f := 49) rfl ?_); refine goesL_ (some 14) rfl rfl Tryd.func49 (by kernel_rfl) rfl #[.pointer (some ⟨g, 0, none⟩)] rfl (by (try simp only [List.map_toArray, List.map_cons, List.map_nil]); first | done | rfl | (simp only [List.length_drop, List.length_take]; rfl)) ?_; (with_reducible refine (num_Reader_ok.calls g s0_0 s0_1 s0_2 s0_3 false t109 t110 t111 w0 _ ?side1 ?side2 A6.out).mono ?_); (case side1 => repeat (first | (with_reducible first | exact HI0.out | apply IsS71.alloc | apply IsS71.drewN | apply IsS71.drew | apply IsS71.set_1 | apply IsS71.set_2 | apply IsS71.set_3) | exact HI0.out)); (case side2 => repeat (first | (with_reducible first | exact HB.out | apply below_alloc | apply pw_below_drewN | apply below_drew1 | refine below_set ?_ (IsS71.ge HI0.out)) | exact HB.out)); rintro e w11 ⟨rfl, hi, hb, hk⟩; refine ⟨_, rfl, ?_⟩; have n0_ := Aside0.mk (KeepBut.trans (by repeat (first | (with_reducible first | exact HK.out | apply KeepBut.set_ | apply keep_drewN | apply keep_drew | apply keep_alloc) | exact HK.out)) hk (.inl rfl)); have n1_ := Aside0.mk (hb); have n2_ := Aside0.mk (hi); clear HK; clear HB; clear HI0; have HK := n0_; have HB := n1_; have HI0 := n2_; clear n0_ n1_ n2_; (try clear hb); (try clear hb2); (try clear hk); (try clear hi)))
          go_ret
          exact ⟨by first | rfl | (simp [errW_none, errW_some] <;> rfl) | (simp [*, errW_none, errW_some] <;> rfl), by repeat (first | (with_reducible first | exact HI0.out | apply IsS71.alloc | apply IsS71.drewN | apply IsS71.drew | apply IsS71.set_1 | apply IsS71.set_2 | apply IsS71.set_3) | exact HI0.out), by repeat (first | (with_reducible first | exact HB.out | apply below_alloc | apply pw_below_drewN | apply below_drew1 | refine below_set ?_ (IsS71.ge HI0.out)) | exact HB.out), by repeat (first | (with_reducible first | exact HK.out | apply KeepBut.set_ | apply keep_drewN | apply keep_drew | apply keep_alloc) | exact HK.out)⟩
      · replace c5 := Bool.eq_false_iff.mpr c5
        subst c5
        have H1 : ((num_Reader_Take.f s0_0 s0_1 s0_2 s0_3 a1).bind fun bt115 => (if (bt115.1.length : Int) = 8 then (if 7 < (bt115.1.length : Int) then (if 6 < (bt115.1.length : Int) then (if 5 < (bt115.1.length : Int) then (if 4 < (bt115.1.length : Int) then (if 3 < (bt115.1.length : Int) then (if 2 < (bt115.1.length : Int) then (if 1 < (bt115.1.length : Int) then (if 0 < (bt115.1.length : Int) then (some (Go.bits .or .u64 (Go.bits .or .u64 (Go.bits .or .u64 (Go.bits .or .u64 (Go.bits .or .u64 (Go.bits .or .u64 (Go.bits .or .u64 (Go.bits .or .u64 0 (IntKind.u64.wrap ((IntKind.u64.wrap (rd bt115.1 7)) * 72057594037927936))) (IntKind.u64.wrap ((IntKind.u64.wrap (rd bt115.1 6)) * 281474976710656))) (IntKind.u64.wrap ((IntKind.u64.wrap (rd bt115.1 5)) * 1099511627776))) (IntKind.u64.wrap ((IntKind.u64.wrap (rd bt115.1 4)) * 4294967296))) (IntKind.u64.wrap ((IntKind.u64.wrap (rd bt115.1 3)) * 16777216))) (IntKind.u64.wrap ((IntKind.u64.wrap (rd bt115.1 2)) * 65536))) (IntKind.u64.wrap ((IntKind.u64.wrap (rd bt115.1 1)) * 256))) (IntKind.u64.wrap (rd bt115.1 0)), bt115.2.1, bt115.2.2.1, bt115.2.2.2)) else (none)) else (none)) else (none)) else (none)) else (none)) else (none)) else (none)) else (none)) else (if (bt115.1.length : Int) = 7 then (if 6 < (bt115.1.length : Int) then (if 5 < (bt115.1.length : Int) then (if 4 < (bt115.1.length : Int) then (if 3 < (bt115.1.length : Int) then (if 2 < (bt115.1.length : Int) then (if 1 < (bt115.1.length : Int) then (if 0 < (bt115.1.length : Int) then (some (Go.bits .or .u64 (Go.bits .or .u64 (Go.bits .or .u64 (Go.bits .or .u64 (Go.bits .or .u64 (Go.bits .or .u64 (Go.bits .or .u64 0 (IntKind.u64.wrap ((IntKind.u64.wrap (rd bt115.1 6)) * 281474976710656))) (IntKind.u64.wrap ((IntKind.u64.wrap (rd bt115.1 5)) * 1099511627776))) (IntKind.u64.wrap ((IntKind.u64.wrap (rd bt115.1 4)) * 4294967296))) (IntKind.u64.wrap ((IntKind.u64.wrap (rd bt115.1 3)) * 16777216))) (IntKind.u64.wrap ((IntKind.u64.wrap (rd bt115.1 2)) * 65536))) (IntKind.u64.wrap ((IntKind.u64.wrap (rd bt115.1 1)) * 256))) (IntKind.u64.wrap (rd bt115.1 0)), bt115.2.1, bt115.2.2.1, bt115.2.2.2)) else (none)) else (none)) else (none)) else (none)) else (none)) else (none)) else (none)) else (if (bt115.1.length : Int) = 6 then (if 5 < (bt115.1.length : Int) then (if 4 < (bt115.1.length : Int) then (if 3 < (bt115.1.length : Int) then (if 2 < (bt115.1.length : Int) then (if 1 < (bt115.1.length : Int) then (if 0 < (bt115.1.length : Int) then (some (Go.bits .or .u64 (Go.bits .or .u64 (Go.bits .or .u64 (Go.bits .or .u64 (Go.bits .or .u64 (Go.bits .or .u64 0 (IntKind.u64.wrap ((IntKind.u64.wrap (rd bt115.1 5)) * 1099511627776))) (IntKind.u64.wrap ((IntKind.u64.wrap (rd bt115.1 4)) * 4294967296))) (IntKind.u64.wrap ((IntKind.u64.wrap (rd bt115.1 3)) * 16777216))) (IntKind.u64.wrap ((IntKind.u64.wrap (rd bt115.1 2)) * 65536))) (IntKind.u64.wrap ((IntKind.u64.wrap (rd bt115.1 1)) * 256))) (IntKind.u64.wrap (rd bt115.1 0)), bt115.2.1, bt115.2.2.1, bt115.2.2.2)) else (none)) else (none)) else (none)) else (none)) else (none)) else (none)) else (if (bt115.1.length : Int) = 5 then (if 4 < (bt115.1.length : Int) then (if 3 < (bt115.1.length : Int) then (if 2 < (bt115.1.length : Int) then (if 1 < (bt115.1.length : Int) then (if 0 < (bt115.1.length : Int) then (some (Go.bits .or .u64 (Go.bits .or .u64 (Go.bits .or .u64 (Go.bits .or .u64 (Go.bits .or .u64 0 (IntKind.u64.wrap ((IntKind.u64.wrap (rd bt115.1 4)) * 4294967296))) (IntKind.u64.wrap ((IntKind.u64.wrap (rd bt115.1 3)) * 16777216))) (IntKind.u64.wrap ((IntKind.u64.wrap (rd bt115.1 2)) * 65536))) (IntKind.u64.wrap ((IntKind.u64.wrap (rd bt115.1 1)) * 256))) (IntKind.u64.wrap (rd bt115.1 0)), bt115.2.1, bt115.2.2.1, bt115.2.2.2)) else (none)) else (none)) else (none)) else (none)) else (none)) else (if (bt115.1.length : Int) = 4 then (if 3 < (bt115.1.length : Int) then (if 2 < (bt115.1.length : Int) then (if 1 < (bt115.1.length : Int) then (if 0 < (bt115.1.length : Int) then (some (Go.bits .or .u64 (Go.bits .or .u64 (Go.bits .or .u64 (Go.bits .or .u64 0 (IntKind.u64.wrap ((IntKind.u64.wrap (rd bt115.1 3)) * 16777216))) (IntKind.u64.wrap ((IntKind.u64.wrap (rd bt115.1 2)) * 65536))) (IntKind.u64.wrap ((IntKind.u64.wrap (rd bt115.1 1)) * 256))) (IntKind.u64.wrap (rd bt115.1 0)), bt115.2.1, bt115.2.2.1, bt115.2.2.2)) else (none)) else (none)) else (none)) else (none)) else (if (bt115.1.length : Int) = 3 then (if 2 < (bt115.1.length : Int) then (if 1 < (bt115.1.length : Int) then (if 0 < (bt115.1.length : Int) then (some (Go.bits .or .u64 (Go.bits .or .u64 (Go.bits .or .u64 0 (IntKind.u64.wrap ((IntKind.u64.wrap (rd bt115.1 2)) * 65536))) (IntKind.u64.wrap ((IntKind.u64.wrap (rd bt115.1 1)) * 256))) (IntKind.u64.wrap (rd bt115.1 0)), bt115.2.1, bt115.2.2.1, bt115.2.2.2)) else (none)) else (none)) else (none)) else (if (bt115.1.length : Int) = 2 then (if 1 < (bt115.1.length : Int) then (if 0 < (bt115.1.length : Int) then (some (Go.bits .or .u64 (Go.bits .or .u64 0 (IntKind.u64.wrap ((IntKind.u64.wrap (rd bt115.1 1)) * 256))) (IntKind.u64.wrap (rd bt115.1 0)), bt115.2.1, bt115.2.2.1, bt115.2.2.2)) else (none)) else (none)) else (if (bt115.1.length : Int) = 1 then (if 0 < (bt115.1.length : Int) then (some (Go.bits .or .u64 0 (IntKind.u64.wrap (rd bt115.1 0)), bt115.2.1, bt115.2.2.1, bt115.2.2.2)) else (none)) else (some (0, bt115.2.1, bt115.2.2.1, bt115.2.2.2))))))))))) = some (r1, r2, r3, r4) := by rw [if_neg (show ¬ (false = true) by decide)] at H; exact H
        clear H
        have H := H1
        clear H1
        replace H := Option.bind_eq_some_iff.mp H
        obtain ⟨⟨t115, t118, t119, t120⟩, A120, H⟩ := H
        replace H : (if (t115.length : Int) = 8 then (if 7 < (t115.length : Int) then (if 6 < (t115.length : Int) then (if 5 < (t115.length : Int) then (if 4 < (t115.length : Int) then (if 3 < (t115.length : Int) then (if 2 < (t115.length : Int) then (if 1 < (t115.length : Int) then (if 0 < (t115.length : Int) then (some (Go.bits .or .u64 (Go.bits .or .u64 (Go.bits .or .u64 (Go.bits .or .u64 (Go.bits .or .u64 (Go.bits .or .u64 (Go.bits .or .u64 (Go.bits .or .u64 0 (IntKind.u64.wrap ((IntKind.u64.wrap (rd t115 7)) * 72057594037927936))) (IntKind.u64.wrap ((IntKind.u64.wrap (rd t115 6)) * 281474976710656))) (IntKind.u64.wrap ((IntKind.u64.wrap (rd t115 5)) * 1099511627776))) (IntKind.u64.wrap ((IntKind.u64.wrap (rd t115 4)) * 4294967296))) (IntKind.u64.wrap ((IntKind.u64.wrap (rd t115 3)) * 16777216))) (IntKind.u64.wrap ((IntKind.u64.wrap (rd t115 2)) * 65536))) (IntKind.u64.wrap ((IntKind.u64.wrap (rd t115 1)) * 256))) (IntKind.u64.wrap (rd t115 0)), t118, t119, t120)) else (none)) else (none)) else (none)) else (none)) else (none)) else (none)) else (none)) else (none)) else (if (t115.length : Int) = 7 then (if 6 < (t115.length : Int) then (if 5 < (t115.length : Int) then (if 4 < (t115.length : Int) then (if 3 < (t115.length : Int) then (if 2 < (t115.length : Int) then (if 1 < (t115.length : Int) then (if 0 < (t115.length : Int) then (some (Go.bits .or .u64 (Go.bits .or .u64 (Go.bits .or .u64 (Go.bits .or .u64 (Go.bits .or .u64 (Go.bits .or .u64 (Go.bits .or .u64 0 (IntKind.u64.wrap ((IntKind.u64.wrap (rd t115 6)) * 281474976710656))) (IntKind.u64.wrap ((IntKind.u64.wrap (rd t115 5)) * 1099511627776))) (IntKind.u64.wrap ((IntKind.u64.wrap (rd t115 4)) * 4294967296))) (IntKind.u64.wrap ((IntKind.u64.wrap (rd t115 3)) * 16777216))) (IntKind.u64.wrap ((IntKind.u64.wrap (rd t115 2)) * 65536))) (IntKind.u64.wrap ((IntKind.u64.wrap (rd t115 1)) * 256))) (IntKind.u64.wrap (rd t115 0)), t118, t119, t120)) else (none)) else (none)) else (none)) else (none)) else (none)) else (none)) else (none)) else (if (t115.length : Int) = 6 then (if 5 < (t115.length : Int) then (if 4 < (t115.length : Int) then (if 3 < (t115.length : Int) then (if 2 < (t115.length : Int) then (if 1 < (t115.length : Int) then (if 0 < (t115.length : Int) then (some (Go.bits .or .u64 (Go.bits .or .u64 (Go.bits .or .u64 (Go.bits .or .u64 (Go.bits .or .u64 (Go.bits .or .u64 0 (IntKind.u64.wrap ((IntKind.u64.wrap (rd t115 5)) * 1099511627776))) (IntKind.u64.wrap ((IntKind.u64.wrap (rd t115 4)) * 4294967296))) (IntKind.u64.wrap ((IntKind.u64.wrap (rd t115 3)) * 16777216))) (IntKind.u64.wrap ((IntKind.u64.wrap (rd t115 2)) * 65536))) (IntKind.u64.wrap ((IntKind.u64.wrap (rd t115 1)) * 256))) (IntKind.u64.wrap (rd t115 0)), t118, t119, t120)) else (none)) else (none)) else (none)) else (none)) else (none)) else (none)) else (if (t115.length : Int) = 5 then (if 4 < (t115.length : Int) then (if 3 < (t115.length : Int) then (if 2 < (t115.length : Int) then (if 1 < (t115.length : Int) then (if 0 < (t115.length : Int) then (some (Go.bits .or .u64 (Go.bits .or .u64 (Go.bits .or .u64 (Go.bits .or .u64 (Go.bits .or .u64 0 (IntKind.u64.wrap ((IntKind.u64.wrap (rd t115 4)) * 4294967296))) (IntKind.u64.wrap ((IntKind.u64.wrap (rd t115 3)) * 16777216))) (IntKind.u64.wrap ((IntKind.u64.wrap (rd t115 2)) * 65536))) (IntKind.u64.wrap ((IntKind.u64.wrap (rd t115 1)) * 256))) (IntKind.u64.wrap (rd t115 0)), t118, t119, t120)) else (none)) else (none)) else (none)) else (none)) else (none)) else (if (t115.length : Int) = 4 then (if 3 < (t115.length : Int) then (if 2 < (t115.length : Int) then (if 1 < (t115.length : Int) then (if 0 < (t115.length : Int) then (some (Go.bits .or .u64 (Go.bits .or .u64 (Go.bits .or .u64 (Go.bits .or .u64 0 (IntKind.u64.wrap ((IntKind.u64.wrap (rd t115 3)) * 16777216))) (IntKind.u64.wrap ((IntKind.u64.wrap (rd t115 2)) * 65536))) (IntKind.u64.wrap ((IntKind.u64.wrap (rd t115 1)) * 256))) (IntKind.u64.wrap (rd t115 0)), t118, t119, t120)) else (none)) else (none)) else (none)) else (none)) else (if (t115.length : Int) = 3 then (if 2 < (t115.length : Int) then (if 1 < (t115.length : Int) then (if 0 < (t115.length : Int) then (some (Go.bits .or .u64 (Go.bits .or .u64 (Go.bits .or .u64 0 (IntKind.u64.wrap ((IntKind.u64.wrap (rd t115 2)) * 65536))) (IntKind.u64.wrap ((IntKind.u64.wrap (rd t115 1)) * 256))) (IntKind.u64.wrap (rd t115 0)), t118, t119, t120)) else (none)) else (none)) else (none)) else (if (t115.length : Int) = 2 then (if 1 < (t115.length : Int) then (if 0 < (t115.length : Int) then (some (Go.bits .or .u64 (Go.bits .or .u64 0 (IntKind.u64.wrap ((IntKind.u64.wrap (rd t115 1)) * 256))) (IntKind.u64.wrap (rd t115 0)), t118, t119, t120)) else (none)) else (none)) else (if (t115.length : Int) = 1 then (if 0 < (t115.length : Int) then (some (Go.bits .or .u64 0 (IntKind.u64.wrap (rd t115 0)), t118, t119, t120)) else (none)) else (some (0, t118, t119, t120)))))))))) = some (r1, r2, r3, r4) := H
        have A12 := Aside0.mk A120
        clear A120
        by_cases c13 : (t115.length : Int) = 8
        · rw [if_pos c13] at H
          have c13b0 : ((t115.length : Int) == 8) = true := beq_iff_eq.mpr c13
          have c13b1 : ((t115.length : Int) != 8) = false := bne_eq_false_iff_eq.mpr c13
          clear c13
          by_cases c14 : 7 < (t115.length : Int)
          · rw [if_pos c14] at H
            have c14b0 : decide (7 < (t115.length : Int)) = true := decide_eq_true c14
            have c14b1 : decide (7 < t115.length) = true := decide_eq_true (by omega)
            clear c14
            by_cases c15 : 6 < (t115.length : Int)
            · rw [if_pos c15] at H
              have c15b0 : decide (6 < (t115.length : Int)) = true := decide_eq_true c15
              have c15b1 : decide (6 < t115.length) = true := decide_eq_true (by omega)
              clear c15
              by_cases c16 : 5 < (t115.length : Int)
              · rw [if_pos c16] at H
                have c16b0 : decide (5 < (t115.length : Int)) = true := decide_eq_true c16
                have c16b1 : decide (5 < t115.length) = true := decide_eq_true (by omega)
                clear c16
                by_cases c17 : 4 < (t115.length : Int)
                · rw [if_pos c17] at H
                  have c17b0 : decide (4 < (t115.length : Int)) = true := decide_eq_true c17
                  have c17b1 : decide (4 < t115.length) = true := decide_eq_true (by omega)
                  clear c17
                  by_cases c18 : 3 < (t115.length : Int)
                  · rw [if_pos c18] at H
                    have c18b0 : decide (3 < (t115.length : Int)) = true := decide_eq_true c18
                    have c18b1 : decide (3 < t115.length) = true := decide_eq_true (by omega)
                    clear c18
                    by_cases c19 : 2 < (t115.length : Int)
                    · rw [if_pos c19] at H
                      have c19b0 : decide (2 < (t115.length : Int)) = true := decide_eq_true c19
                      have c19b1 : decide (2 < t115.length) = true := decide_eq_true (by omega)
                      clear c19
                      by_cases c20 : 1 < (t115.length : Int)
                      · rw [if_pos c20] at H
                        have c20b0 : decide (1 < (t115.length : Int)) = true := decide_eq_true c20
                        have c20b1 : decide (1 < t115.length) = true := decide_eq_true (by omega)
                        clear c20
                        by_cases c21 : 0 < (t115.length : Int)
                        · rw [if_pos c21] at H
                          have c21b0 : decide (0 < (t115.length : Int)) = true := decide_eq_true c21
                          have c21b1 : decide (0 < t115.length) = true := decide_eq_true (by omega)
                          clear c21
                          simp only [Option.some.injEq, Prod.mk.injEq] at H
                          obtain ⟨rfl, rfl, rfl, rfl⟩ := H
                          go_wp2_with (first | ((with_reducible refine gate_callee (f := 14) rfl ?_); refine goesL_ (some 19) rfl rfl Tryd.func14 (by kernel_rfl) rfl #[.pointer (some ⟨g, 0, none⟩), .int .i64 a1] rfl (by (try simp only [List.map_toArray, List.map_cons, List.map_nil]); first | done | rfl | (simp only [List.length_drop, List.length_take]; rfl)) ?_; (with_reducible refine (num_Reader_Take.calls g s0_0 s0_1 s0_2 s0_3 a1 t115 t118 t119 t120 w0 _ ?side1 ?side2 A12.out).mono ?_); (case side1 => repeat (first | (with_reducible first | exact HI0.out | apply IsS71.alloc | apply IsS71.drewN | apply IsS71.drew | apply IsS71.set_1 | apply IsS71.set_2 | apply IsS71.set_3) | exact HI0.out)); (case side2 => repeat (first | (with_reducible first | exact HB.out | apply below_alloc | apply pw_below_drewN | apply below_drew1 | refine below_set ?_ (IsS71.ge HI0.out)) | exact HB.out)); rintro e w22 ⟨v116, rfl, ho0, hi, hb, hk⟩; refine ⟨_, rfl, ?_⟩; have n0_ := Aside0.mk (Kd.R_lower ho0 (keep_size (w := w) (g := g) (row := none) (by repeat (first | (with_reducible first | exact HK.out | apply KeepBut.set_ | apply keep_drewN | apply keep_drew | apply keep_alloc) | exact HK.out)))); have n1_ := Aside0.mk (KeepBut.trans (by repeat (first | (with_reducible first | exact HK.out | apply KeepBut.set_ | apply keep_drewN | apply keep_drew | apply keep_alloc) | exact HK.out)) hk (.inl rfl)); have n2_ := Aside0.mk (hb); have n3_ := Aside0.mk (hi); clear HK; clear HB; clear HI0; have HO117 := n0_; have HK := n1_; have HB := n2_; have HI0 := n3_; clear n0_ n1_ n2_ n3_; (try clear hb); (try clear hb2); (try clear hk); (try clear hi); (try clear ho0); obtain ⟨Ao23, co23, eo23⟩ := Kd.R_slice HO117.out; subst eo23; have p121 : 0 ≤ (7 : Int) := (by omega); have q121 : 7 < (t115.length : Int) := of_decide_eq_true (by first | (with_reducible assumption) | assumption); obtain ⟨ad121, e121, hx121_0⟩ := Kd.at_int (Kd.R_reads' HO117.out).2.2 7 p121 q121; cases e121; (try simp only [show (7 : Int).toNat = 7 from rfl, Nat.reduceMul, Nat.reduceEqDiff, Go.Addr.add, ↓reduceIte] at hx121_0); have qi121 : (7 < t115.length) = True := eq_true (by omega); (try rw [show ((7 : Int)).toNat = 7 from rfl] at hx121_0); replace p121 := eq_true p121; replace q121 := eq_true q121; have p122 : 0 ≤ (6 : Int) := (by omega); have q122 : 6 < (t115.length : Int) := of_decide_eq_true (by first | (with_reducible assumption) | assumption); obtain ⟨ad122, e122, hx122_0⟩ := Kd.at_int (Kd.R_reads' HO117.out).2.2 6 p122 q122; obtain rfl : ad121 = ad122 := (by injection e122); (try simp only [show (6 : Int).toNat = 6 from rfl, Nat.reduceMul, Nat.reduceEqDiff, Go.Addr.add, ↓reduceIte] at hx122_0); have qi122 : (6 < t115.length) = True := eq_true (by omega); (try rw [show ((6 : Int)).toNat = 6 from rfl] at hx122_0); replace p122 := eq_true p122; replace q122 := eq_true q122; have p123 : 0 ≤ (5 : Int) := (by omega); have q123 : 5 < (t115.length : Int) := of_decide_eq_true (by first | (with_reducible assumption) | assumption); obtain ⟨ad123, e123, hx123_0⟩ := Kd.at_int (Kd.R_reads' HO117.out).2.2 5 p123 q123; obtain rfl : ad121 = ad123 := (by injection e123); (try simp only [show (5 : Int).toNat = 5 from rfl, Nat.reduceMul, Nat.reduceEqDiff, Go.Addr.add, ↓reduceIte] at hx123_0); have qi123 : (5 < t115.length) = True := eq_true (by omega); (try rw [show ((5 : Int)).toNat = 5 from rfl] at hx123_0); replace p123 := eq_true p123; replace q123 := eq_true q123; have p124 : 0 ≤ (4 : Int) := (by omega); have q124 : 4 < (t115.length : Int) := of_decide_eq_true (by first | (with_reducible assumption) | assumption); obtain ⟨ad124, e124, hx124_0⟩ := Kd.at_int (Kd.R_reads' HO117.out).2.2 4 p124 q124; obtain rfl : ad121 = ad124 := (by injection e124); (try simp only [show (4 : Int).toNat = 4 from rfl, Nat.reduceMul, Nat.reduceEqDiff, Go.Addr.add, ↓reduceIte] at hx124_0); have qi124 : (4 < t115.length) = True := eq_true (by omega); (try rw [show ((4 : Int)).toNat = 4 from rfl] at hx124_0); replace p124 := eq_true p124; replace q124 := eq_true q124; have p125 : 0 ≤ (3 : Int) := (by omega); have q125 : 3 < (t115.length : Int) := of_decide_eq_true (by first | (with_reducible assumption) | assumption); obtain ⟨ad125, e125, hx125_0⟩ := Kd.at_int (Kd.R_reads' HO117.out).2.2 3 p125 q125; obtain rfl : ad121 = ad125 := (by injection e125); (try simp only [show (3 : Int).toNat = 3 from rfl, Nat.reduceMul, Nat.reduceEqDiff, Go.Addr.add, ↓reduceIte] at hx125_0); have qi125 : (3 < t115.length) = True := eq_true (by omega); (try rw [show ((3 : Int)).toNat = 3 from rfl] at hx125_0); replace p125 := eq_true p125; replace q125 := eq_true q125; have p126 : 0 ≤ (2 : Int) := (by omega); have q126 : 2 < (t115.length : Int) := of_decide_eq_true (by first | (with_reducible assumption) | assumption); obtain ⟨ad126, e126, hx126_0⟩ := Kd.at_int (Kd.R_reads' HO117.out).2.2 2 p126 q126; obtain rfl : ad121 = ad126 := (by injection e126); (try simp only [show (2 : Int).toNat = 2 from rfl, Nat.reduceMul, Nat.reduceEqDiff, Go.Addr.add, ↓reduceIte] at hx126_0); have qi126 : (2 < t115.length) = True := eq_true (by omega); (try rw [show ((2 : Int)).toNat = 2 from rfl] at hx126_0); replace p126 := eq_true p126; replace q126 := eq_true q126; have p127 : 0 ≤ (1 : Int) := (by omega); have q127 : 1 < (t115.length : Int) := of_decide_eq_true (by first | (with_reducible assumption) | assumption); obtain ⟨ad127, e127, hx127_0⟩ := Kd.at_int (Kd.R_reads' HO117.out).2.2 1 p127 q127; obtain rfl : ad121 = ad127 := (by injection e127); (try simp only [show (1 : Int).toNat = 1 from rfl, Nat.reduceMul, Nat.reduceEqDiff, Go.Addr.add, ↓reduceIte] at hx127_0); have qi127 : (1 < t115.length) = True := eq_true (by omega); (try rw [show ((1 : Int)).toNat = 1 from rfl] at hx127_0); replace p127 := eq_true p127; replace q127 := eq_true q127; have p128 : 0 ≤ (0 : Int) := (by omega); have q128 : 0 < (t115.length : Int) := of_decide_eq_true (by first | (with_reducible assumption) | assumption); obtain ⟨ad128, e128, hx128_0⟩ := Kd.at_int (Kd.R_reads' HO117.out).2.2 0 p128 q128; obtain rfl : ad121 = ad128 := (by injection e128); have qi128 : (0 < t115.length) = True := eq_true (by omega); (try rw [show ((0 : Int)).toNat = 0 from rfl] at hx128_0); (try rw [Addr.add_zero'] at hx128_0); replace p128 := eq_true p128; replace q128 := eq_true q128))
                          go_ret
                          exact ⟨by first | rfl | (simp [errW_none, errW_some] <;> rfl) | (simp [*, errW_none, errW_some] <;> rfl), by repeat (first | (with_reducible first | exact HI0.out | apply IsS71.alloc | apply IsS71.drewN | apply IsS71.drew | apply IsS71.set_1 | apply IsS71.set_2 | apply IsS71.set_3) | exact HI0.out), by repeat (first | (with_reducible first | exact HB.out | apply below_alloc | apply pw_below_drewN | apply below_drew1 | refine below_set ?_ (IsS71.ge HI0.out)) | exact HB.out), by repeat (first | (with_reducible first | exact HK.out | apply KeepBut.set_ | apply keep_drewN | apply keep_drew | apply keep_alloc) | exact HK.out)⟩
                        · rw [if_neg c21] at H
                          exact absurd H (by simp)
                      · rw [if_neg c20] at H
                        exact absurd H (by simp)
                    · rw [if_neg c19] at H
                      exact absurd H (by simp)
                  · rw [if_neg c18] at H
                    exact absurd H (by simp)
                · rw [if_neg c17] at H
                  exact absurd H (by simp)
              · rw [if_neg c16] at H
                exact absurd H (by simp)
            · rw [if_neg c15] at H
              exact absurd H (by simp)
          · rw [if_neg c14] at H
            exact absurd H (by simp)
        · rw [if_neg c13] at H
          have c13b0 : ((t115.length : Int) == 8) = false := beq_eq_false_iff_ne.mpr c13
          have c13b1 : ((t115.length : Int) != 8) = true := bne_iff_ne.mpr c13
          by_cases c24 : (t115.length : Int) = 7
          · rw [if_pos c24] at H
            have c24b0 : ((t115.length : Int) == 7) = true := beq_iff_eq.mpr c24
            have c24b1 : ((t115.length : Int) != 7) = false := bne_eq_false_iff_eq.mpr c24
            clear c24
            by_cases c25 : 6 < (t115.length : Int)
            · rw [if_pos c25] at H
              have c25b0 : decide (6 < (t115.length : Int)) = true := decide_eq_true c25
              have c25b1 : decide (6 < t115.length) = true := decide_eq_true (by omega)
              clear c25
              by_cases c26 : 5 < (t115.length : Int)
              · rw [if_pos c26] at H
                have c26b0 : decide (5 < (t115.length : Int)) = true := decide_eq_true c26
                have c26b1 : decide (5 < t115.length) = true := decide_eq_true (by omega)
                clear c26
                by_cases c27 : 4 < (t115.length : Int)
                · rw [if_pos c27] at H
                  have c27b0 : decide (4 < (t115.length : Int)) = true := decide_eq_true c27
                  have c27b1 : decide (4 < t115.length) = true := decide_eq_true (by omega)
                  clear c27
                  by_cases c28 : 3 < (t115.length : Int)
                  · rw [if_pos c28] at H
                    have c28b0 : decide (3 < (t115.length : Int)) = true := decide_eq_true c28
                    have c28b1 : decide (3 < t115.length) = true := decide_eq_true (by omega)
                    clear c28
                    by_cases c29 : 2 < (t115.length : Int)
                    · rw [if_pos c29] at H
                      have c29b0 : decide (2 < (t115.length : Int)) = true := decide_eq_true c29
                      have c29b1 : decide (2 < t115.length) = true := decide_eq_true (by omega)
                      clear c29
                      by_cases c30 : 1 < (t115.length : Int)
                      · rw [if_pos c30] at H
                        have c30b0 : decide (1 < (t115.length : Int)) = true := decide_eq_true c30
                        have c30b1 : decide (1 < t115.length) = true := decide_eq_true (by omega)
                        clear c30
                        by_cases c31 : 0 < (t115.length : Int)
                        · rw [if_pos c31] at H
                          have c31b0 : decide (0 < (t115.length : Int)) = true := decide_eq_true c31
                          have c31b1 : decide (0 < t115.length) = true := decide_eq_true (by omega)
                          clear c31
                          simp only [Option.some.injEq, Prod.mk.injEq] at H
                          obtain ⟨rfl, rfl, rfl, rfl⟩ := H
                          go_wp2_with (first | ((with_reducible refine gate_callee (f := 14) rfl ?_); refine goesL_ (some 19) rfl rfl Tryd.func14 (by kernel_rfl) rfl #[.pointer (some ⟨g, 0, none⟩), .int .i64 a1] rfl (by (try simp only [List.map_toArray, List.map_cons, List.map_nil]); first | done | rfl | (simp only [List.length_drop, List.length_take]; rfl)) ?_; (with_reducible refine (num_Reader_Take.calls g s0_0 s0_1 s0_2 s0_3 a1 t115 t118 t119 t120 w0 _ ?side1 ?side2 A12.out).mono ?_); (case side1 => repeat (first | (with_reducible first | exact HI0.out | apply IsS71.alloc | apply IsS71.drewN | apply IsS71.drew | apply IsS71.set_1 | apply IsS71.set_2 | apply IsS71.set_3) | exact HI0.out)); (case side2 => repeat (first | (with_reducible first | exact HB.out | apply below_alloc | apply pw_below_drewN | apply below_drew1 | refine below_set ?_ (IsS71.ge HI0.out)) | exact HB.out)); rintro e w32 ⟨v116, rfl, ho0, hi, hb, hk⟩; refine ⟨_, rfl, ?_⟩; have n0_ := Aside0.mk (Kd.R_lower ho0 (keep_size (w := w) (g := g) (row := none) (by repeat (first | (with_reducible first | exact HK.out | apply KeepBut.set_ | apply keep_drewN | apply keep_drew | apply keep_alloc) | exact HK.out)))); have n1_ := Aside0.mk (KeepBut.trans (by repeat (first | (with_reducible first | exact HK.out | apply KeepBut.set_ | apply keep_drewN | apply keep_drew | apply keep_alloc) | exact HK.out)) hk (.inl rfl)); have n2_ := Aside0.mk (hb); have n3_ := Aside0.mk (hi); clear HK; clear HB; clear HI0; have HO117 := n0_; have HK := n1_; have HB := n2_; have HI0 := n3_; clear n0_ n1_ n2_ n3_; (try clear hb); (try clear hb2); (try clear hk); (try clear hi); (try clear ho0); obtain ⟨Ao33, co33, eo33⟩ := Kd.R_slice HO117.out; subst eo33; have p129 : 0 ≤ (6 : Int) := (by omega); have q129 : 6 < (t115.length : Int) := of_decide_eq_true (by first | (with_reducible assumption) | assumption); obtain ⟨ad129, e129, hx129_0⟩ := Kd.at_int (Kd.R_reads' HO117.out).2.2 6 p129 q129; cases e129; (try simp only [show (6 : Int).toNat = 6 from rfl, Nat.reduceMul, Nat.reduceEqDiff, Go.Addr.add, ↓reduceIte] at hx129_0); have qi129 : (6 < t115.length) = True := eq_true (by omega); (try rw [show ((6 : Int)).toNat = 6 from rfl] at hx129_0); replace p129 := eq_true p129; replace q129 := eq_true q129; have p130 : 0 ≤ (5 : Int) := (by omega); have q130 : 5 < (t115.length : Int) := of_decide_eq_true (by first | (with_reducible assumption) | assumption); obtain ⟨ad130, e130, hx130_0⟩ := Kd.at_int (Kd.R_reads' HO117.out).2.2 5 p130 q130; obtain rfl : ad129 = ad130 := (by injection e130); (try simp only [show (5 : Int).toNat = 5 from rfl, Nat.reduceMul, Nat.reduceEqDiff, Go.Addr.add, ↓reduceIte] at hx130_0); have qi130 : (5 < t115.length) = True := eq_true (by omega); (try rw [show ((5 : Int)).toNat = 5 from rfl] at hx130_0); replace p130 := eq_true p130; replace q130 := eq_true q130; have p131 : 0 ≤ (4 : Int) := (by omega); have q131 : 4 < (t115.length : Int) := of_decide_eq_true (by first | (with_reducible assumption) | assumption); obtain ⟨ad131, e131, hx131_0⟩ := Kd.at_int (Kd.R_reads' HO117.out).2.2 4 p131 q131; obtain rfl : ad129 = ad131 := (by injection e131); (try simp only [show (4 : Int).toNat = 4 from rfl, Nat.reduceMul, Nat.reduceEqDiff, Go.Addr.add, ↓reduceIte] at hx131_0); have qi131 : (4 < t115.length) = True := eq_true (by omega); (try rw [show ((4 : Int)).toNat = 4 from rfl] at hx131_0); replace p131 := eq_true p131; replace q131 := eq_true q131; have p132 : 0 ≤ (3 : Int) := (by omega); have q132 : 3 < (t115.length : Int) := of_decide_eq_true (by first | (with_reducible assumption) | assumption); obtain ⟨ad132, e132, hx132_0⟩ := Kd.at_int (Kd.R_reads' HO117.out).2.2 3 p132 q132; obtain rfl : ad129 = ad132 := (by injection e132); (try simp only [show (3 : Int).toNat = 3 from rfl, Nat.reduceMul, Nat.reduceEqDiff, Go.Addr.add, ↓reduceIte] at hx132_0); have qi132 : (3 < t115.length) = True := eq_true (by omega); (try rw [show ((3 : Int)).toNat = 3 from rfl] at hx132_0); replace p132 := eq_true p132; replace q132 := eq_true q132; have p133 : 0 ≤ (2 : Int) := (by omega); have q133 : 2 < (t115.length : Int) := of_decide_eq_true (by first | (with_reducible assumption) | assumption); obtain ⟨ad133, e133, hx133_0⟩ := Kd.at_int (Kd.R_reads' HO117.out).2.2 2 p133 q133; obtain rfl : ad129 = ad133 := (by injection e133); (try simp only [show (2 : Int).toNat = 2 from rfl, Nat.reduceMul, Nat.reduceEqDiff, Go.Addr.add, ↓reduceIte] at hx133_0); have qi133 : (2 < t115.length) = True := eq_true (by omega); (try rw [show ((2 : Int)).toNat = 2 from rfl] at hx133_0); replace p133 := eq_true p133; replace q133 := eq_true q133; have p134 : 0 ≤ (1 : Int) := (by omega); have q134 : 1 < (t115.length : Int) := of_decide_eq_true (by first | (with_reducible assumption) | assumption); obtain ⟨ad134, e134, hx134_0⟩ := Kd.at_int (Kd.R_reads' HO117.out).2.2 1 p134 q134; obtain rfl : ad129 = ad134 := (by injection e134); (try simp only [show (1 : Int).toNat = 1 from rfl, Nat.reduceMul, Nat.reduceEqDiff, Go.Addr.add, ↓reduceIte] at hx134_0); have qi134 : (1 < t115.length) = True := eq_true (by omega); (try rw [show ((1 : Int)).toNat = 1 from rfl] at hx134_0); replace p134 := eq_true p134; replace q134 := eq_true q134; have p135 : 0 ≤ (0 : Int) := (by omega); have q135 : 0 < (t115.length : Int) := of_decide_eq_true (by first | (with_reducible assumption) | assumption); obtain ⟨ad135, e135, hx135_0⟩ := Kd.at_int (Kd.R_reads' HO117.out).2.2 0 p135 q135; obtain rfl : ad129 = ad135 := (by injection e135); have qi135 : (0 < t115.length) = True := eq_true (by omega); (try rw [show ((0 : Int)).toNat = 0 from rfl] at hx135_0); (try rw [Addr.add_zero'] at hx135_0); replace p135 := eq_true p135; replace q135 := eq_true q135))
                          go_ret
                          exact ⟨by first | rfl | (simp [errW_none, errW_some] <;> rfl) | (simp [*, errW_none, errW_some] <;> rfl), by repeat (first | (with_reducible first | exact HI0.out | apply IsS71.alloc | apply IsS71.drewN | apply IsS71.drew | apply IsS71.set_1 | apply IsS71.set_2 | apply IsS71.set_3) | exact HI0.out), by repeat (first | (with_reducible first | exact HB.out | apply below_alloc | apply pw_below_drewN | apply below_drew1 | refine below_set ?_ (IsS71.ge HI0.out)) | exact HB.out), by repeat (first | (with_reducible first | exact HK.out | apply KeepBut.set_ | apply keep_drewN | apply keep_drew | apply keep_alloc) | exact HK.out)⟩
                        · rw [if_neg c31] at H
                          exact absurd H (by simp)
                      · rw [if_neg c30] at H
                        exact absurd H (by simp)
                    · rw [if_neg c29] at H
                      exact absurd H (by simp)
                  · rw [if_neg c28] at H
                    exact absurd H (by simp)
                · rw [if_neg c27] at H
                  exact absurd H (by simp)
              · rw [if_neg c26] at H
                exact absurd H (by simp)
            · rw [if_neg c25] at H
              exact absurd H (by simp)
          · rw [if_neg c24] at H
            have c24b0 : ((t115.length : Int) == 7) = false := beq_eq_false_iff_ne.mpr c24
            have c24b1 : ((t115.length : Int) != 7) = true := bne_iff_ne.mpr c24
            by_cases c34 : (t115.length : Int) = 6
            · rw [if_pos c34] at H
              have c34b0 : ((t115.length : Int) == 6) = true := beq_iff_eq.mpr c34
              have c34b1 : ((t115.length : Int) != 6) = false := bne_eq_false_iff_eq.mpr c34
              clear c34
              by_cases c35 : 5 < (t115.length : Int)
              · rw [if_pos c35] at H
                have c35b0 : decide (5 < (t115.length : Int)) = true := decide_eq_true c35
                have c35b1 : decide (5 < t115.length) = true := decide_eq_true (by omega)
                clear c35
                by_cases c36 : 4 < (t115.length : Int)
                · rw [if_pos c36] at H
                  have c36b0 : decide (4 < (t115.length : Int)) = true := decide_eq_true c36
                  have c36b1 : decide (4 < t115.length) = true := decide_eq_true (by omega)
                  clear c36
                  by_cases c37 : 3 < (t115.length : Int)
                  · rw [if_pos c37] at H
                    have c37b0 : decide (3 < (t115.length : Int)) = true := decide_eq_true c37
                    have c37b1 : decide (3 < t115.length) = true := decide_eq_true (by omega)
                    clear c37
                    by_cases c38 : 2 < (t115.length : Int)
                    · rw [if_pos c38] at H
                      have c38b0 : decide (2 < (t115.length : Int)) = true := decide_eq_true c38
                      have c38b1 : decide (2 < t115.length) = true := decide_eq_true (by omega)
                      clear c38
                      by_cases c39 : 1 < (t115.length : Int)
                      · rw [if_pos c39] at H
                        have c39b0 : decide (1 < (t115.length : Int)) = true := decide_eq_true c39
                        have c39b1 : decide (1 < t115.length) = true := decide_eq_true (by omega)
                        clear c39
                        by_cases c40 : 0 < (t115.length : Int)
                        · rw [if_pos c40] at H
                          have c40b0 : decide (0 < (t115.length : Int)) = true := decide_eq_true c40
                          have c40b1 : decide (0 < t115.length) = true := decide_eq_true (by omega)
                          clear c40
                          simp only [Option.some.injEq, Prod.mk.injEq] at H
                          obtain ⟨rfl, rfl, rfl, rfl⟩ := H
                          go_wp2_with (first | ((with_reducible refine gate_callee (f := 14) rfl ?_); refine goesL_ (some 19) rfl rfl Tryd.func14 (by kernel_rfl) rfl #[.pointer (some ⟨g, 0, none⟩), .int .i64 a1] rfl (by (try simp only [List.map_toArray, List.map_cons, List.map_nil]); first | done | rfl | (simp only [List.length_drop, List.length_take]; rfl)) ?_; (with_reducible refine (num_Reader_Take.calls g s0_0 s0_1 s0_2 s0_3 a1 t115 t118 t119 t120 w0 _ ?side1 ?side2 A12.out).mono ?_); (case side1 => repeat (first | (with_reducible first | exact HI0.out | apply IsS71.alloc | apply IsS71.drewN | apply IsS71.drew | apply IsS71.set_1 | apply IsS71.set_2 | apply IsS71.set_3) | exact HI0.out)); (case side2 => repeat (first | (with_reducible first | exact HB.out | apply below_alloc | apply pw_below_drewN | apply below_drew1 | refine below_set ?_ (IsS71.ge HI0.out)) | exact HB.out)); rintro e w41 ⟨v116, rfl, ho0, hi, hb, hk⟩; refine ⟨_, rfl, ?_⟩; have n0_ := Aside0.mk (Kd.R_lower ho0 (keep_size (w := w) (g := g) (row := none) (by repeat (first | (with_reducible first | exact HK.out | apply KeepBut.set_ | apply keep_drewN | apply keep_drew | apply keep_alloc) | exact HK.out)))); have n1_ := Aside0.mk (KeepBut.trans (by repeat (first | (with_reducible first | exact HK.out | apply KeepBut.set_ | apply keep_drewN | apply keep_drew | apply keep_alloc) | exact HK.out)) hk (.inl rfl)); have n2_ := Aside0.mk (hb); have n3_ := Aside0.mk (hi); clear HK; clear HB; clear HI0; have HO117 := n0_; have HK := n1_; have HB := n2_; have HI0 := n3_; clear n0_ n1_ n2_ n3_; (try clear hb); (try clear hb2); (try clear hk); (try clear hi); (try clear ho0); obtain ⟨Ao42, co42, eo42⟩ := Kd.R_slice HO117.out; subst eo42; have p136 : 0 ≤ (5 : Int) := (by omega); have q136 : 5 < (t115.length : Int) := of_decide_eq_true (by first | (with_reducible assumption) | assumption); obtain ⟨ad136, e136, hx136_0⟩ := Kd.at_int (Kd.R_reads' HO117.out).2.2 5 p136 q136; cases e136; (try simp only [show (5 : Int).toNat = 5 from rfl, Nat.reduceMul, Nat.reduceEqDiff, Go.Addr.add, ↓reduceIte] at hx136_0); have qi136 : (5 < t115.length) = True := eq_true (by omega); (try rw [show ((5 : Int)).toNat = 5 from rfl] at hx136_0); replace p136 := eq_true p136; replace q136 := eq_true q136; have p137 : 0 ≤ (4 : Int) := (by omega); have q137 : 4 < (t115.length : Int) := of_decide_eq_true (by first | (with_reducible assumption) | assumption); obtain ⟨ad137, e137, hx137_0⟩ := Kd.at_int (Kd.R_reads' HO117.out).2.2 4 p137 q137; obtain rfl : ad136 = ad137 := (by injection e137); (try simp only [show (4 : Int).toNat = 4 from rfl, Nat.reduceMul, Nat.reduceEqDiff, Go.Addr.add, ↓reduceIte] at hx137_0); have qi137 : (4 < t115.length) = True := eq_true (by omega); (try rw [show ((4 : Int)).toNat = 4 from rfl] at hx137_0); replace p137 := eq_true p137; replace q137 := eq_true q137; have p138 : 0 ≤ (3 : Int) := (by omega); have q138 : 3 < (t115.length : Int) := of_decide_eq_true (by first | (with_reducible assumption) | assumption); obtain ⟨ad138, e138, hx138_0⟩ := Kd.at_int (Kd.R_reads' HO117.out).2.2 3 p138 q138; obtain rfl : ad136 = ad138 := (by injection e138); (try simp only [show (3 : Int).toNat = 3 from rfl, Nat.reduceMul, Nat.reduceEqDiff, Go.Addr.add, ↓reduceIte] at hx138_0); have qi138 : (3 < t115.length) = True := eq_true (by omega); (try rw [show ((3 : Int)).toNat = 3 from rfl] at hx138_0); replace p138 := eq_true p138; replace q138 := eq_true q138; have p139 : 0 ≤ (2 : Int) := (by omega); have q139 : 2 < (t115.length : Int) := of_decide_eq_true (by first | (with_reducible assumption) | assumption); obtain ⟨ad139, e139, hx139_0⟩ := Kd.at_int (Kd.R_reads' HO117.out).2.2 2 p139 q139; obtain rfl : ad136 = ad139 := (by injection e139); (try simp only [show (2 : Int).toNat = 2 from rfl, Nat.reduceMul, Nat.reduceEqDiff, Go.Addr.add, ↓reduceIte] at hx139_0); have qi139 : (2 < t115.length) = True := eq_true (by omega); (try rw [show ((2 : Int)).toNat = 2 from rfl] at hx139_0); replace p139 := eq_true p139; replace q139 := eq_true q139; have p140 : 0 ≤ (1 : Int) := (by omega); have q140 : 1 < (t115.length : Int) := of_decide_eq_true (by first | (with_reducible assumption) | assumption); obtain ⟨ad140, e140, hx140_0⟩ := Kd.at_int (Kd.R_reads' HO117.out).2.2 1 p140 q140; obtain rfl : ad136 = ad140 := (by injection e140); (try simp only [show (1 : Int).toNat = 1 from rfl, Nat.reduceMul, Nat.reduceEqDiff, Go.Addr.add, ↓reduceIte] at hx140_0); have qi140 : (1 < t115.length) = True := eq_true (by omega); (try rw [show ((1 : Int)).toNat = 1 from rfl] at hx140_0); replace p140 := eq_true p140; replace q140 := eq_true q140; have p141 : 0 ≤ (0 : Int) := (by omega); have q141 : 0 < (t115.length : Int) := of_decide_eq_true (by first | (with_reducible assumption) | assumption); obtain ⟨ad141, e141, hx141_0⟩ := Kd.at_int (Kd.R_reads' HO117.out).2.2 0 p141 q141; obtain rfl : ad136 = ad141 := (by injection e141); have qi141 : (0 < t115.length) = True := eq_true (by omega); (try rw [show ((0 : Int)).toNat = 0 from rfl] at hx141_0); (try rw [Addr.add_zero'] at hx141_0); replace p141 := eq_true p141; replace q141 := eq_true q141))
                          go_ret
                          exact ⟨by first | rfl | (simp [errW_none, errW_some] <;> rfl) | (simp [*, errW_none, errW_some] <;> rfl), by repeat (first | (with_reducible first | exact HI0.out | apply IsS71.alloc | apply IsS71.drewN | apply IsS71.drew | apply IsS71.set_1 | apply IsS71.set_2 | apply IsS71.set_3) | exact HI0.out), by repeat (first | (with_reducible first | exact HB.out | apply below_alloc | apply pw_below_drewN | apply below_drew1 | refine below_set ?_ (IsS71.ge HI0.out)) | exact HB.out), by repeat (first | (with_reducible first | exact HK.out | apply KeepBut.set_ | apply keep_drewN | apply keep_drew | apply keep_alloc) | exact HK.out)⟩
                        · rw [if_neg c40] at H
                          exact absurd H (by simp)
                      · rw [if_neg c39] at H
                        exact absurd H (by simp)
                    · rw [if_neg c38] at H
                      exact absurd H (by simp)
                  · rw [if_neg c37] at H
                    exact absurd H (by simp)
                · rw [if_neg c36] at H
                  exact absurd H (by simp)
              · rw [if_neg c35] at H
                exact absurd H (by simp)
            · rw [if_neg c34] at H
              have c34b0 : ((t115.length : Int) == 6) = false := beq_eq_false_iff_ne.mpr c34
              have c34b1 : ((t115.length : Int) != 6) = true := bne_iff_ne.mpr c34
              by_cases c43 : (t115.length : Int) = 5
              · rw [if_pos c43] at H
                have c43b0 : ((t115.length : Int) == 5) = true := beq_iff_eq.mpr c43
                have c43b1 : ((t115.length : Int) != 5) = false := bne_eq_false_iff_eq.mpr c43
                clear c43
                by_cases c44 : 4 < (t115.length : Int)
                · rw [if_pos c44] at H
                  have c44b0 : decide (4 < (t115.length : Int)) = true := decide_eq_true c44
                  have c44b1 : decide (4 < t115.length) = true := decide_eq_true (by omega)
                  clear c44
                  by_cases c45 : 3 < (t115.length : Int)
                  · rw [if_pos c45] at H
                    have c45b0 : decide (3 < (t115.length : Int)) = true := decide_eq_true c45
                    have c45b1 : decide (3 < t115.length) = true := decide_eq_true (by omega)
                    clear c45
                    by_cases c46 : 2 < (t115.length : Int)
                    · rw [if_pos c46] at H
                      have c46b0 : decide (2 < (t115.length : Int)) = true := decide_eq_true c46
                      have c46b1 : decide (2 < t115.length) = true := decide_eq_true (by omega)
                      clear c46
                      by_cases c47 : 1 < (t115.length : Int)
                      · rw [if_pos c47] at H
                        have c47b0 : decide (1 < (t115.length : Int)) = true := decide_eq_true c47
                        have c47b1 : decide (1 < t115.length) = true := decide_eq_true (by omega)
                        clear c47
                        by_cases c48 : 0 < (t115.length : Int)
                        · rw [if_pos c48] at H
                          have c48b0 : decide (0 < (t115.length : Int)) = true := decide_eq_true c48
                          have c48b1 : decide (0 < t115.length) = true := decide_eq_true (by omega)
                          clear c48
                          simp only [Option.some.injEq, Prod.mk.injEq] at H
                          obtain ⟨rfl, rfl, rfl, rfl⟩ := H
                          go_wp2_with (first | ((with_reducible refine gate_callee (f := 14) rfl ?_); refine goesL_ (some 19) rfl rfl Tryd.func14 (by kernel_rfl) rfl #[.pointer (some ⟨g, 0, none⟩), .int .i64 a1] rfl (by (try simp only [List.map_toArray, List.map_cons, List.map_nil]); first | done | rfl | (simp only [List.length_drop, List.length_take]; rfl)) ?_; (with_reducible refine (num_Reader_Take.calls g s0_0 s0_1 s0_2 s0_3 a1 t115 t118 t119 t120 w0 _ ?side1 ?side2 A12.out).mono ?_); (case side1 => repeat (first | (with_reducible first | exact HI0.out | apply IsS71.alloc | apply IsS71.drewN | apply IsS71.drew | apply IsS71.set_1 | apply IsS71.set_2 | apply IsS71.set_3) | exact HI0.out)); (case side2 => repeat (first | (with_reducible first | exact HB.out | apply below_alloc | apply pw_below_drewN | apply below_drew1 | refine below_set ?_ (IsS71.ge HI0.out)) | exact HB.out)); rintro e w49 ⟨v116, rfl, ho0, hi, hb, hk⟩; refine ⟨_, rfl, ?_⟩; have n0_ := Aside0.mk (Kd.R_lower ho0 (keep_size (w := w) (g := g) (row := none) (by repeat (first | (with_reducible first | exact HK.out | apply KeepBut.set_ | apply keep_drewN | apply keep_drew | apply keep_alloc) | exact HK.out)))); have n1_ := Aside0.mk (KeepBut.trans (by repeat (first | (with_reducible first | exact HK.out | apply KeepBut.set_ | apply keep_drewN | apply keep_drew | apply keep_alloc) | exact HK.out)) hk (.inl rfl)); have n2_ := Aside0.mk (hb); have n3_ := Aside0.mk (hi); clear HK; clear HB; clear HI0; have HO117 := n0_; have HK := n1_; have HB := n2_; have HI0 := n3_; clear n0_ n1_ n2_ n3_; (try clear hb); (try clear hb2); (try clear hk); (try clear hi); (try clear ho0); obtain ⟨Ao50, co50, eo50⟩ := Kd.R_slice HO117.out; subst eo50; have p142 : 0 ≤ (4 : Int) := (by omega); have q142 : 4 < (t115.length : Int) := of_decide_eq_true (by first | (with_reducible assumption) | assumption); obtain ⟨ad142, e142, hx142_0⟩ := Kd.at_int (Kd.R_reads' HO117.out).2.2 4 p142 q142; cases e142; (try simp only [show (4 : Int).toNat = 4 from rfl, Nat.reduceMul, Nat.reduceEqDiff, Go.Addr.add, ↓reduceIte] at hx142_0); have qi142 : (4 < t115.length) = True := eq_true (by omega); (try rw [show ((4 : Int)).toNat = 4 from rfl] at hx142_0); replace p142 := eq_true p142; replace q142 := eq_true q142; have p143 : 0 ≤ (3 : Int) := (by omega); have q143 : 3 < (t115.length : Int) := of_decide_eq_true (by first | (with_reducible assumption) | assumption); obtain ⟨ad143, e143, hx143_0⟩ := Kd.at_int (Kd.R_reads' HO117.out).2.2 3 p143 q143; obtain rfl : ad142 = ad143 := (by injection e143); (try simp only [show (3 : Int).toNat = 3 from rfl, Nat.reduceMul, Nat.reduceEqDiff, Go.Addr.add, ↓reduceIte] at hx143_0); have qi143 : (3 < t115.length) = True := eq_true (by omega); (try rw [show ((3 : Int)).toNat = 3 from rfl] at hx143_0); replace p143 := eq_true p143; replace q143 := eq_true q143; have p144 : 0 ≤ (2 : Int) := (by omega); have q144 : 2 < (t115.length : Int) := of_decide_eq_true (by first | (with_reducible assumption) | assumption); obtain ⟨ad144, e144, hx144_0⟩ := Kd.at_int (Kd.R_reads' HO117.out).2.2 2 p144 q144; obtain rfl : ad142 = ad144 := (by injection e144); (try simp only [show (2 : Int).toNat = 2 from rfl, Nat.reduceMul, Nat.reduceEqDiff, Go.Addr.add, ↓reduceIte] at hx144_0); have qi144 : (2 < t115.length) = True := eq_true (by omega); (try rw [show ((2 : Int)).toNat = 2 from rfl] at hx144_0); replace p144 := eq_true p144; replace q144 := eq_true q144; have p145 : 0 ≤ (1 : Int) := (by omega); have q145 : 1 < (t115.length : Int) := of_decide_eq_true (by first | (with_reducible assumption) | assumption); obtain ⟨ad145, e145, hx145_0⟩ := Kd.at_int (Kd.R_reads' HO117.out).2.2 1 p145 q145; obtain rfl : ad142 = ad145 := (by injection e145); (try simp only [show (1 : Int).toNat = 1 from rfl, Nat.reduceMul, Nat.reduceEqDiff, Go.Addr.add, ↓reduceIte] at hx145_0); have qi145 : (1 < t115.length) = True := eq_true (by omega); (try rw [show ((1 : Int)).toNat = 1 from rfl] at hx145_0); replace p145 := eq_true p145; replace q145 := eq_true q145; have p146 : 0 ≤ (0 : Int) := (by omega); have q146 : 0 < (t115.length : Int) := of_decide_eq_true (by first | (with_reducible assumption) | assumption); obtain ⟨ad146, e146, hx146_0⟩ := Kd.at_int (Kd.R_reads' HO117.out).2.2 0 p146 q146; obtain rfl : ad142 = ad146 := (by injection e146); have qi146 : (0 < t115.length) = True := eq_true (by omega); (try rw [show ((0 : Int)).toNat = 0 from rfl] at hx146_0); (try rw [Addr.add_zero'] at hx146_0); replace p146 := eq_true p146; replace q146 := eq_true q146))
                          go_ret
                          exact ⟨by first | rfl | (simp [errW_none, errW_some] <;> rfl) | (simp [*, errW_none, errW_some] <;> rfl), by repeat (first | (with_reducible first | exact HI0.out | apply IsS71.alloc | apply IsS71.drewN | apply IsS71.drew | apply IsS71.set_1 | apply IsS71.set_2 | apply IsS71.set_3) | exact HI0.out), by repeat (first | (with_reducible first | exact HB.out | apply below_alloc | apply pw_below_drewN | apply below_drew1 | refine below_set ?_ (IsS71.ge HI0.out)) | exact HB.out), by repeat (first | (with_reducible first | exact HK.out | apply KeepBut.set_ | apply keep_drewN | apply keep_drew | apply keep_alloc) | exact HK.out)⟩
                        · rw [if_neg c48] at H
                          exact absurd H (by simp)
                      · rw [if_neg c47] at H
                        exact absurd H (by simp)
                    · rw [if_neg c46] at H
                      exact absurd H (by simp)
                  · rw [if_neg c45] at H
                    exact absurd H (by simp)
                · rw [if_neg c44] at H
                  exact absurd H (by simp)
              · rw [if_neg c43] at H
                have c43b0 : ((t115.length : Int) == 5) = false := beq_eq_false_iff_ne.mpr c43
                have c43b1 : ((t115.length : Int) != 5) = true := bne_iff_ne.mpr c43
                by_cases c51 : (t115.length : Int) = 4
                · rw [if_pos c51] at H
                  have c51b0 : ((t115.length : Int) == 4) = true := beq_iff_eq.mpr c51
                  have c51b1 : ((t115.length : Int) != 4) = false := bne_eq_false_iff_eq.mpr c51
                  clear c51
                  by_cases c52 : 3 < (t115.length : Int)
                  · rw [if_pos c52] at H
                    have c52b0 : decide (3 < (t115.length : Int)) = true := decide_eq_true c52
                    have c52b1 : decide (3 < t115.length) = true := decide_eq_true (by omega)
                    clear c52
                    by_cases c53 : 2 < (t115.length : Int)
                    · rw [if_pos c53] at H
                      have c53b0 : decide (2 < (t115.length : Int)) = true := decide_eq_true c53
                      have c53b1 : decide (2 < t115.length) = true := decide_eq_true (by omega)
                      clear c53
                      by_cases c54 : 1 < (t115.length : Int)
                      · rw [if_pos c54] at H
                        have c54b0 : decide (1 < (t115.length : Int)) = true := decide_eq_true c54
                        have c54b1 : decide (1 < t115.length) = true := decide_eq_true (by omega)
                        clear c54
                        by_cases c55 : 0 < (t115.length : Int)
                        · rw [if_pos c55] at H
                          have c55b0 : decide (0 < (t115.length : Int)) = true := decide_eq_true c55
                          have c55b1 : decide (0 < t115.length) = true := decide_eq_true (by omega)
                          clear c55
                          simp only [Option.some.injEq, Prod.mk.injEq] at H
                          obtain ⟨rfl, rfl, rfl, rfl⟩ := H
                          go_wp2_with (first | ((with_reducible refine gate_callee (f := 14) rfl ?_); refine goesL_ (some 19) rfl rfl Tryd.func14 (by kernel_rfl) rfl #[.pointer (some ⟨g, 0, none⟩), .int .i64 a1] rfl (by (try simp only [List.map_toArray, List.map_cons, List.map_nil]); first | done | rfl | (simp only [List.length_drop, List.length_take]; rfl)) ?_; (with_reducible refine (num_Reader_Take.calls g s0_0 s0_1 s0_2 s0_3 a1 t115 t118 t119 t120 w0 _ ?side1 ?side2 A12.out).mono ?_); (case side1 => repeat (first | (with_reducible first | exact HI0.out | apply IsS71.alloc | apply IsS71.drewN | apply IsS71.drew | apply IsS71.set_1 | apply IsS71.set_2 | apply IsS71.set_3) | exact HI0.out)); (case side2 => repeat (first | (with_reducible first | exact HB.out | apply below_alloc | apply pw_below_drewN | apply below_drew1 | refine below_set ?_ (IsS71.ge HI0.out)) | exact HB.out)); rintro e w56 ⟨v116, rfl, ho0, hi, hb, hk⟩; refine ⟨_, rfl, ?_⟩; have n0_ := Aside0.mk (Kd.R_lower ho0 (keep_size (w := w) (g := g) (row := none) (by repeat (first | (with_reducible first | exact HK.out | apply KeepBut.set_ | apply keep_drewN | apply keep_drew | apply keep_alloc) | exact HK.out)))); have n1_ := Aside0.mk (KeepBut.trans (by repeat (first | (with_reducible first | exact HK.out | apply KeepBut.set_ | apply keep_drewN | apply keep_drew | apply keep_alloc) | exact HK.out)) hk (.inl rfl)); have n2_ := Aside0.mk (hb); have n3_ := Aside0.mk (hi); clear HK; clear HB; clear HI0; have HO117 := n0_; have HK := n1_; have HB := n2_; have HI0 := n3_; clear n0_ n1_ n2_ n3_; (try clear hb); (try clear hb2); (try clear hk); (try clear hi); (try clear ho0); obtain ⟨Ao57, co57, eo57⟩ := Kd.R_slice HO117.out; subst eo57; have p147 : 0 ≤ (3 : Int) := (by omega); have q147 : 3 < (t115.length : Int) := of_decide_eq_true (by first | (with_reducible assumption) | assumption); obtain ⟨ad147, e147, hx147_0⟩ := Kd.at_int (Kd.R_reads' HO117.out).2.2 3 p147 q147; cases e147; (try simp only [show (3 : Int).toNat = 3 from rfl, Nat.reduceMul, Nat.reduceEqDiff, Go.Addr.add, ↓reduceIte] at hx147_0); have qi147 : (3 < t115.length) = True := eq_true (by omega); (try rw [show ((3 : Int)).toNat = 3 from rfl] at hx147_0); replace p147 := eq_true p147; replace q147 := eq_true q147; have p148 : 0 ≤ (2 : Int) := (by omega); have q148 : 2 < (t115.length : Int) := of_decide_eq_true (by first | (with_reducible assumption) | assumption); obtain ⟨ad148, e148, hx148_0⟩ := Kd.at_int (Kd.R_reads' HO117.out).2.2 2 p148 q148; obtain rfl : ad147 = ad148 := (by injection e148); (try simp only [show (2 : Int).toNat = 2 from rfl, Nat.reduceMul, Nat.reduceEqDiff, Go.Addr.add, ↓reduceIte] at hx148_0); have qi148 : (2 < t115.length) = True := eq_true (by omega); (try rw [show ((2 : Int)).toNat = 2 from rfl] at hx148_0); replace p148 := eq_true p148; replace q148 := eq_true q148; have p149 : 0 ≤ (1 : Int) := (by omega); have q149 : 1 < (t115.length : Int) := of_decide_eq_true (by first | (with_reducible assumption) | assumption); obtain ⟨ad149, e149, hx149_0⟩ := Kd.at_int (Kd.R_reads' HO117.out).2.2 1 p149 q149; obtain rfl : ad147 = ad149 := (by injection e149); (try simp only [show (1 : Int).toNat = 1 from rfl, Nat.reduceMul, Nat.reduceEqDiff, Go.Addr.add, ↓reduceIte] at hx149_0); have qi149 : (1 < t115.length) = True := eq_true (by omega); (try rw [show ((1 : Int)).toNat = 1 from rfl] at hx149_0); replace p149 := eq_true p149; replace q149 := eq_true q149; have p150 : 0 ≤ (0 : Int) := (by omega); have q150 : 0 < (t115.length : Int) := of_decide_eq_true (by first | (with_reducible assumption) | assumption); obtain ⟨ad150, e150, hx150_0⟩ := Kd.at_int (Kd.R_reads' HO117.out).2.2 0 p150 q150; obtain rfl : ad147 = ad150 := (by injection e150); have qi150 : (0 < t115.length) = True := eq_true (by omega); (try rw [show ((0 : Int)).toNat = 0 from rfl] at hx150_0); (try rw [Addr.add_zero'] at hx150_0); replace p150 := eq_true p150; replace q150 := eq_true q150))
                          go_ret
                          exact ⟨by first | rfl | (simp [errW_none, errW_some] <;> rfl) | (simp [*, errW_none, errW_some] <;> rfl), by repeat (first | (with_reducible first | exact HI0.out | apply IsS71.alloc | apply IsS71.drewN | apply IsS71.drew | apply IsS71.set_1 | apply IsS71.set_2 | apply IsS71.set_3) | exact HI0.out), by repeat (first | (with_reducible first | exact HB.out | apply below_alloc | apply pw_below_drewN | apply below_drew1 | refine below_set ?_ (IsS71.ge HI0.out)) | exact HB.out), by repeat (first | (with_reducible first | exact HK.out | apply KeepBut.set_ | apply keep_drewN | apply keep_drew | apply keep_alloc) | exact HK.out)⟩
                        · rw [if_neg c55] at H
                          exact absurd H (by simp)
                      · rw [if_neg c54] at H
                        exact absurd H (by simp)
                    · rw [if_neg c53] at H
                      exact absurd H (by simp)
                  · rw [if_neg c52] at H
                    exact absurd H (by simp)
                · rw [if_neg c51] at H
                  have c51b0 : ((t115.length : Int) == 4) = false := beq_eq_false_iff_ne.mpr c51
                  have c51b1 : ((t115.length : Int) != 4) = true := bne_iff_ne.mpr c51
                  by_cases c58 : (t115.length : Int) = 3
                  · rw [if_pos c58] at H
                    have c58b0 : ((t115.length : Int) == 3) = true := beq_iff_eq.mpr c58
                    have c58b1 : ((t115.length : Int) != 3) = false := bne_eq_false_iff_eq.mpr c58
                    clear c58
                    by_cases c59 : 2 < (t115.length : Int)
                    · rw [if_pos c59] at H
                      have c59b0 : decide (2 < (t115.length : Int)) = true := decide_eq_true c59
                      have c59b1 : decide (2 < t115.length) = true := decide_eq_true (by omega)
                      clear c59
                      by_cases c60 : 1 < (t115.length : Int)
                      · rw [if_pos c60] at H
                        have c60b0 : decide (1 < (t115.length : Int)) = true := decide_eq_true c60
                        have c60b1 : decide (1 < t115.length) = true := decide_eq_true (by omega)
                        clear c60
                        by_cases c61 : 0 < (t115.length : Int)
                        · rw [if_pos c61] at H
                          have c61b0 : decide (0 < (t115.length : Int)) = true := decide_eq_true c61
                          have c61b1 : decide (0 < t115.length) = true := decide_eq_true (by omega)
                          clear c61
                          simp only [Option.some.injEq, Prod.mk.injEq] at H
                          obtain ⟨rfl, rfl, rfl, rfl⟩ := H
                          go_wp2_with (first | ((with_reducible refine gate_callee (f := 14) rfl ?_); refine goesL_ (some 19) rfl rfl Tryd.func14 (by kernel_rfl) rfl #[.pointer (some ⟨g, 0, none⟩), .int .i64 a1] rfl (by (try simp only [List.map_toArray, List.map_cons, List.map_nil]); first | done | rfl | (simp only [List.length_drop, List.length_take]; rfl)) ?_; (with_reducible refine (num_Reader_Take.calls g s0_0 s0_1 s0_2 s0_3 a1 t115 t118 t119 t120 w0 _ ?side1 ?side2 A12.out).mono ?_); (case side1 => repeat (first | (with_reducible first | exact HI0.out | apply IsS71.alloc | apply IsS71.drewN | apply IsS71.drew | apply IsS71.set_1 | apply IsS71.set_2 | apply IsS71.set_3) | exact HI0.out)); (case side2 => repeat (first | (with_reducible first | exact HB.out | apply below_alloc | apply pw_below_drewN | apply below_drew1 | refine below_set ?_ (IsS71.ge HI0.out)) | exact HB.out)); rintro e w62 ⟨v116, rfl, ho0, hi, hb, hk⟩; refine ⟨_, rfl, ?_⟩; have n0_ := Aside0.mk (Kd.R_lower ho0 (keep_size (w := w) (g := g) (row := none) (by repeat (first | (with_reducible first | exact HK.out | apply KeepBut.set_ | apply keep_drewN | apply keep_drew | apply keep_alloc) | exact HK.out)))); have n1_ := Aside0.mk (KeepBut.trans (by repeat (first | (with_reducible first | exact HK.out | apply KeepBut.set_ | apply keep_drewN | apply keep_drew | apply keep_alloc) | exact HK.out)) hk (.inl rfl)); have n2_ := Aside0.mk (hb); have n3_ := Aside0.mk (hi); clear HK; clear HB; clear HI0; have HO117 := n0_; have HK := n1_; have HB := n2_; have HI0 := n3_; clear n0_ n1_ n2_ n3_; (try clear hb); (try clear hb2); (try clear hk); (try clear hi); (try clear ho0); obtain ⟨Ao63, co63, eo63⟩ := Kd.R_slice HO117.out; subst eo63; have p151 : 0 ≤ (2 : Int) := (by omega); have q151 : 2 < (t115.length : Int) := of_decide_eq_true (by first | (with_reducible assumption) | assumption); obtain ⟨ad151, e151, hx151_0⟩ := Kd.at_int (Kd.R_reads' HO117.out).2.2 2 p151 q151; cases e151; (try simp only [show (2 : Int).toNat = 2 from rfl, Nat.reduceMul, Nat.reduceEqDiff, Go.Addr.add, ↓reduceIte] at hx151_0); have qi151 : (2 < t115.length) = True := eq_true (by omega); (try rw [show ((2 : Int)).toNat = 2 from rfl] at hx151_0); replace p151 := eq_true p151; replace q151 := eq_true q151; have p152 : 0 ≤ (1 : Int) := (by omega); have q152 : 1 < (t115.length : Int) := of_decide_eq_true (by first | (with_reducible assumption) | assumption); obtain ⟨ad152, e152, hx152_0⟩ := Kd.at_int (Kd.R_reads' HO117.out).2.2 1 p152 q152; obtain rfl : ad151 = ad152 := (by injection e152); (try simp only [show (1 : Int).toNat = 1 from rfl, Nat.reduceMul, Nat.reduceEqDiff, Go.Addr.add, ↓reduceIte] at hx152_0); have qi152 : (1 < t115.length) = True := eq_true (by omega); (try rw [show ((1 : Int)).toNat = 1 from rfl] at hx152_0); replace p152 := eq_true p152; replace q152 := eq_true q152; have p153 : 0 ≤ (0 : Int) := (by omega); have q153 : 0 < (t115.length : Int) := of_decide_eq_true (by first | (with_reducible assumption) | assumption); obtain ⟨ad153, e153, hx153_0⟩ := Kd.at_int (Kd.R_reads' HO117.out).2.2 0 p153 q153; obtain rfl : ad151 = ad153 := (by injection e153); have qi153 : (0 < t115.length) = True := eq_true (by omega); (try rw [show ((0 : Int)).toNat = 0 from rfl] at hx153_0); (try rw [Addr.add_zero'] at hx153_0); replace p153 := eq_true p153; replace q153 := eq_true q153))
                          go_ret
                          exact ⟨by first | rfl | (simp [errW_none, errW_some] <;> rfl) | (simp [*, errW_none, errW_some] <;> rfl), by repeat (first | (with_reducible first | exact HI0.out | apply IsS71.alloc | apply IsS71.drewN | apply IsS71.drew | apply IsS71.set_1 | apply IsS71.set_2 | apply IsS71.set_3) | exact HI0.out), by repeat (first | (with_reducible first | exact HB.out | apply below_alloc | apply pw_below_drewN | apply below_drew1 | refine below_set ?_ (IsS71.ge HI0.out)) | exact HB.out), by repeat (first | (with_reducible first | exact HK.out | apply KeepBut.set_ | apply keep_drewN | apply keep_drew | apply keep_alloc) | exact HK.out)⟩
                        · rw [if_neg c61] at H
                          exact absurd H (by simp)
                      · rw [if_neg c60] at H
                        exact absurd H (by simp)
                    · rw [if_neg c59] at H
                      exact absurd H (by simp)
                  · rw [if_neg c58] at H
                    have c58b0 : ((t115.length : Int) == 3) = false := beq_eq_false_iff_ne.mpr c58
                    have c58b1 : ((t115.length : Int) != 3) = true := bne_iff_ne.mpr c58
                    by_cases c64 : (t115.length : Int) = 2
                    · rw [if_pos c64] at H
                      have c64b0 : ((t115.length : Int) == 2) = true := beq_iff_eq.mpr c64
                      have c64b1 : ((t115.length : Int) != 2) = false := bne_eq_false_iff_eq.mpr c64
                      clear c64
                      by_cases c65 : 1 < (t115.length : Int)
                      · rw [if_pos c65] at H
                        have c65b0 : decide (1 < (t115.length : Int)) = true := decide_eq_true c65
                        have c65b1 : decide (1 < t115.length) = true := decide_eq_true (by omega)
                        clear c65
                        by_cases c66 : 0 < (t115.length : Int)
                        · rw [if_pos c66] at H
                          have c66b0 : decide (0 < (t115.length : Int)) = true := decide_eq_true c66
                          have c66b1 : decide (0 < t115.length) = true := decide_eq_true (by omega)
                          clear c66
                          simp only [Option.some.injEq, Prod.mk.injEq] at H
                          obtain ⟨rfl, rfl, rfl, rfl⟩ := H
                          go_wp2_with (first | ((with_reducible refine gate_callee (f := 14) rfl ?_); refine goesL_ (some 19) rfl rfl Tryd.func14 (by kernel_rfl) rfl #[.pointer (some ⟨g, 0, none⟩), .int .i64 a1] rfl (by (try simp only [List.map_toArray, List.map_cons, List.map_nil]); first | done | rfl | (simp only [List.length_drop, List.length_take]; rfl)) ?_; (with_reducible refine (num_Reader_Take.calls g s0_0 s0_1 s0_2 s0_3 a1 t115 t118 t119 t120 w0 _ ?side1 ?side2 A12.out).mono ?_); (case side1 => repeat (first | (with_reducible first | exact HI0.out | apply IsS71.alloc | apply IsS71.drewN | apply IsS71.drew | apply IsS71.set_1 | apply IsS71.set_2 | apply IsS71.set_3) | exact HI0.out)); (case side2 => repeat (first | (with_reducible first | exact HB.out | apply below_alloc | apply pw_below_drewN | apply below_drew1 | refine below_set ?_ (IsS71.ge HI0.out)) | exact HB.out)); rintro e w67 ⟨v116, rfl, ho0, hi, hb, hk⟩; refine ⟨_, rfl, ?_⟩; have n0_ := Aside0.mk (Kd.R_lower ho0 (keep_size (w := w) (g := g) (row := none) (by repeat (first | (with_reducible first | exact HK.out | apply KeepBut.set_ | apply keep_drewN | apply keep_drew | apply keep_alloc) | exact HK.out)))); have n1_ := Aside0.mk (KeepBut.trans (by repeat (first | (with_reducible first | exact HK.out | apply KeepBut.set_ | apply keep_drewN | apply keep_drew | apply keep_alloc) | exact HK.out)) hk (.inl rfl)); have n2_ := Aside0.mk (hb); have n3_ := Aside0.mk (hi); clear HK; clear HB; clear HI0; have HO117 := n0_; have HK := n1_; have HB := n2_; have HI0 := n3_; clear n0_ n1_ n2_ n3_; (try clear hb); (try clear hb2); (try clear hk); (try clear hi); (try clear ho0); obtain ⟨Ao68, co68, eo68⟩ := Kd.R_slice HO117.out; subst eo68; have p154 : 0 ≤ (1 : Int) := (by omega); have q154 : 1 < (t115.length : Int) := of_decide_eq_true (by first | (with_reducible assumption) | assumption); obtain ⟨ad154, e154, hx154_0⟩ := Kd.at_int (Kd.R_reads' HO117.out).2.2 1 p154 q154; cases e154; (try simp only [show (1 : Int).toNat = 1 from rfl, Nat.reduceMul, Nat.reduceEqDiff, Go.Addr.add, ↓reduceIte] at hx154_0); have qi154 : (1 < t115.length) = True := eq_true (by omega); (try rw [show ((1 : Int)).toNat = 1 from rfl] at hx154_0); replace p154 := eq_true p154; replace q154 := eq_true q154; have p155 : 0 ≤ (0 : Int) := (by omega); have q155 : 0 < (t115.length : Int) := of_decide_eq_true (by first | (with_reducible assumption) | assumption); obtain ⟨ad155, e155, hx155_0⟩ := Kd.at_int (Kd.R_reads' HO117.out).2.2 0 p155 q155; obtain rfl : ad154 = ad155 := (by injection e155); have qi155 : (0 < t115.length) = True := eq_true (by omega); (try rw [show ((0 : Int)).toNat = 0 from rfl] at hx155_0); (try rw [Addr.add_zero'] at hx155_0); replace p155 := eq_true p155; replace q155 := eq_true q155))
                          go_ret
                          exact ⟨by first | rfl | (simp [errW_none, errW_some] <;> rfl) | (simp [*, errW_none, errW_some] <;> rfl), by repeat (first | (with_reducible first | exact HI0.out | apply IsS71.alloc | apply IsS71.drewN | apply IsS71.drew | apply IsS71.set_1 | apply IsS71.set_2 | apply IsS71.set_3) | exact HI0.out), by repeat (first | (with_reducible first | exact HB.out | apply below_alloc | apply pw_below_drewN | apply below_drew1 | refine below_set ?_ (IsS71.ge HI0.out)) | exact HB.out), by repeat (first | (with_reducible first | exact HK.out | apply KeepBut.set_ | apply keep_drewN | apply keep_drew | apply keep_alloc) | exact HK.out)⟩
                        · rw [if_neg c66] at H
                          exact absurd H (by simp)
                      · rw [if_neg c65] at H
                        exact absurd H (by simp)
                    · rw [if_neg c64] at H
                      have c64b0 : ((t115.length : Int) == 2) = false := beq_eq_false_iff_ne.mpr c64
                      have c64b1 : ((t115.length : Int) != 2) = true := bne_iff_ne.mpr c64
                      by_cases c69 : (t115.length : Int) = 1
                      · rw [if_pos c69] at H
                        have c69b0 : ((t115.length : Int) == 1) = true := beq_iff_eq.mpr c69
                        have c69b1 : ((t115.length : Int) != 1) = false := bne_eq_false_iff_eq.mpr c69
                        clear c69
                        by_cases c70 : 0 < (t115.length : Int)
                        · rw [if_pos c70] at H
                          have c70b0 : decide (0 < (t115.length : Int)) = true := decide_eq_true c70
                          have c70b1 : decide (0 < t115.length) = true := decide_eq_true (by omega)
                          clear c70
                          simp only [Option.some.injEq, Prod.mk.injEq] at H
                          obtain ⟨rfl, rfl, rfl, rfl⟩ := H
                          go_wp2_with (first | ((with_reducible refine gate_callee (f := 14) rfl ?_); refine goesL_ (some 19) rfl rfl Tryd.func14 (by kernel_rfl) rfl #[.pointer (some ⟨g, 0, none⟩), .int .i64 a1] rfl (by (try simp only [List.map_toArray, List.map_cons, List.map_nil]); first | done | rfl | (simp only [List.length_drop, List.length_take]; rfl)) ?_; (with_reducible refine (num_Reader_Take.calls g s0_0 s0_1 s0_2 s0_3 a1 t115 t118 t119 t120 w0 _ ?side1 ?side2 A12.out).mono ?_); (case side1 => repeat (first | (with_reducible first | exact HI0.out | apply IsS71.alloc | apply IsS71.drewN | apply IsS71.drew | apply IsS71.set_1 | apply IsS71.set_2 | apply IsS71.set_3) | exact HI0.out)); (case side2 => repeat (first | (with_reducible first | exact HB.out | apply below_alloc | apply pw_below_drewN | apply below_drew1 | refine below_set ?_ (IsS71.ge HI0.out)) | exact HB.out)); rintro e w71 ⟨v116, rfl, ho0, hi, hb, hk⟩; refine ⟨_, rfl, ?_⟩; have n0_ := Aside0.mk (Kd.R_lower ho0 (keep_size (w := w) (g := g) (row := none) (by repeat (first | (with_reducible first | exact HK.out | apply KeepBut.set_ | apply keep_drewN | apply keep_drew | apply keep_alloc) | exact HK.out)))); have n1_ := Aside0.mk (KeepBut.trans (by repeat (first | (with_reducible first | exact HK.out | apply KeepBut.set_ | apply keep_drewN | apply keep_drew | apply keep_alloc) | exact HK.out)) hk (.inl rfl)); have n2_ := Aside0.mk (hb); have n3_ := Aside0.mk (hi); clear HK; clear HB; clear HI0; have HO117 := n0_; have HK := n1_; have HB := n2_; have HI0 := n3_; clear n0_ n1_ n2_ n3_; (try clear hb); (try clear hb2); (try clear hk); (try clear hi); (try clear ho0); obtain ⟨Ao72, co72, eo72⟩ := Kd.R_slice HO117.out; subst eo72; have p156 : 0 ≤ (0 : Int) := (by omega); have q156 : 0 < (t115.length : Int) := of_decide_eq_true (by first | (with_reducible assumption) | assumption); obtain ⟨ad156, e156, hx156_0⟩ := Kd.at_int (Kd.R_reads' HO117.out).2.2 0 p156 q156; cases e156; have qi156 : (0 < t115.length) = True := eq_true (by omega); (try rw [show ((0 : Int)).toNat = 0 from rfl] at hx156_0); (try rw [Addr.add_zero'] at hx156_0); replace p156 := eq_true p156; replace q156 := eq_true q156))
                          go_ret
                          exact ⟨by first | rfl | (simp [errW_none, errW_some] <;> rfl) | (simp [*, errW_none, errW_some] <;> rfl), by repeat (first | (with_reducible first | exact HI0.out | apply IsS71.alloc | apply IsS71.drewN | apply IsS71.drew | apply IsS71.set_1 | apply IsS71.set_2 | apply IsS71.set_3) | exact HI0.out), by repeat (first | (with_reducible first | exact HB.out | apply below_alloc | apply pw_below_drewN | apply below_drew1 | refine below_set ?_ (IsS71.ge HI0.out)) | exact HB.out), by repeat (first | (with_reducible first | exact HK.out | apply KeepBut.set_ | apply keep_drewN | apply keep_drew | apply keep_alloc) | exact HK.out)⟩
                        · rw [if_neg c70] at H
                          exact absurd H (by simp)
                      · rw [if_neg c69] at H
                        have c69b0 : ((t115.length : Int) == 1) = false := beq_eq_false_iff_ne.mpr c69
                        have c69b1 : ((t115.length : Int) != 1) = true := bne_iff_ne.mpr c69
                        simp only [Option.some.injEq, Prod.mk.injEq] at H
                        obtain ⟨rfl, rfl, rfl, rfl⟩ := H
                        go_wp2_with (first | ((with_reducible refine gate_callee (f := 14) rfl ?_); refine goesL_ (some 19) rfl rfl Tryd.func14 (by kernel_rfl) rfl #[.pointer (some ⟨g, 0, none⟩), .int .i64 a1] rfl (by (try simp only [List.map_toArray, List.map_cons, List.map_nil]); first | done | rfl | (simp only [List.length_drop, List.length_take]; rfl)) ?_; (with_reducible refine (num_Reader_Take.calls g s0_0 s0_1 s0_2 s0_3 a1 t115 t118 t119 t120 w0 _ ?side1 ?side2 A12.out).mono ?_); (case side1 => repeat (first | (with_reducible first | exact HI0.out | apply IsS71.alloc | apply IsS71.drewN | apply IsS71.drew | apply IsS71.set_1 | apply IsS71.set_2 | apply IsS71.set_3) | exact HI0.out)); (case side2 => repeat (first | (with_reducible first | exact HB.out | apply below_alloc | apply pw_below_drewN | apply below_drew1 | refine below_set ?_ (IsS71.ge HI0.out)) | exact HB.out)); rintro e w73 ⟨v116, rfl, ho0, hi, hb, hk⟩; refine ⟨_, rfl, ?_⟩; have n0_ := Aside0.mk (Kd.R_lower ho0 (keep_size (w := w) (g := g) (row := none) (by repeat (first | (with_reducible first | exact HK.out | apply KeepBut.set_ | apply keep_drewN | apply keep_drew | apply keep_alloc) | exact HK.out)))); have n1_ := Aside0.mk (KeepBut.trans (by repeat (first | (with_reducible first | exact HK.out | apply KeepBut.set_ | apply keep_drewN | apply keep_drew | apply keep_alloc) | exact HK.out)) hk (.inl rfl)); have n2_ := Aside0.mk (hb); have n3_ := Aside0.mk (hi); clear HK; clear HB; clear HI0; have HO117 := n0_; have HK := n1_; have HB := n2_; have HI0 := n3_; clear n0_ n1_ n2_ n3_; (try clear hb); (try clear hb2); (try clear hk); (try clear hi); (try clear ho0); obtain ⟨Ao74, co74, eo74⟩ := Kd.R_slice HO117.out; subst eo74))
                        go_ret
                        exact ⟨by first | rfl | (simp [errW_none, errW_some] <;> rfl) | (simp [*, errW_none, errW_some] <;> rfl), by repeat (first | (with_reducible first | exact HI0.out | apply IsS71.alloc | apply IsS71.drewN | apply IsS71.drew | apply IsS71.set_1 | apply IsS71.set_2 | apply IsS71.set_3) | exact HI0.out), by repeat (first | (with_reducible first | exact HB.out | apply below_alloc | apply pw_below_drewN | apply below_drew1 | refine below_set ?_ (IsS71.ge HI0.out)) | exact HB.out), by repeat (first | (with_reducible first | exact HK.out | apply KeepBut.set_ | apply keep_drewN | apply keep_drew | apply keep_alloc) | exact HK.out)⟩

/-! ### num_Reader_Blob: function 19 -/
def num_Reader_Blob.f (k : Nat) (s0_0 : List Int) (s0_1 : Int) (s0_2 : Int) (s0_3 : Int) (a1 : Int) : Option (List Int × Int × Int × Int) :=
  if s0_2 ≠ 0 then some ([], s0_1, s0_2, s0_3)
  else if 0 ≤ s0_1 ∧ s0_1 ≤ (s0_0.length : Int) ∧ (s0_0.length : Int) ≤ 140737488355328 then
    (num_short.f k (s0_0.drop s0_1.toNat)).bind fun t =>
      if t.2.2 ≠ 0 then some ([], s0_1, t.2.2, s0_1)
      else if 0 ≤ t.2.1 ∧ s0_1 + t.2.1 ≤ (s0_0.length : Int) ∧ 0 ≤ t.1 ∧ t.1 < 18446744073709551616 then
        if a1 < 0 ∨ IntKind.u64.wrap a1 < t.1 then some ([], s0_1, 12, s0_1)
        else if (s0_0.length : Int) - s0_1 - t.2.1 < t.1 then some ([], s0_1, 2, s0_1)
        else num_Reader_Take.f s0_0 (s0_1 + t.2.1) 0 s0_3 t.1
      else none
  else none
theorem num_Reader_Blob.mono : ∀ s0_0 s0_1 s0_2 s0_3 a1 k, LeO (num_Reader_Blob.f k s0_0 s0_1 s0_2 s0_3 a1) (num_Reader_Blob.f (k + 1) s0_0 s0_1 s0_2 s0_3 a1) := by
  intro s0 s1 s2 s3 a1 k r h
  unfold num_Reader_Blob.f at h ⊢
  by_cases h0 : s2 ≠ 0
  · rw [if_pos h0] at h ⊢; exact h
  · rw [if_neg h0] at h ⊢
    by_cases h1 : 0 ≤ s1 ∧ s1 ≤ (s0.length : Int) ∧ (s0.length : Int) ≤ 140737488355328
    · rw [if_pos h1] at h ⊢
      obtain ⟨t, ht, h⟩ := Option.bind_eq_some_iff.mp h
      rw [num_short.mono _ k _ ht, Option.bind_some]; exact h
    · rw [if_neg h1] at h; cases h
set_option maxRecDepth 100000 in
set_option maxHeartbeats 16000000 in
theorem num_Reader_Blob.calls (k : Nat) (g : Nat) (s0_0 : List Int) (s0_1 : Int) (s0_2 : Int) (s0_3 : Int) (a1 : Int) (r1 : List Int) (r2 r3 r4 : Int) (w0 w : World) (hI : IsS71 w0 w g s0_0 s0_1 s0_2 s0_3) (hB : Below w0.heap.size w0 w) (h : num_Reader_Blob.f k s0_0 s0_1 s0_2 s0_3 a1 = some (r1, r2, r3, r4)) :
    Calls Tryd.prog 19 #[.pointer (some ⟨g, 0, none⟩), .int .i64 a1] w fun e w' => ∃ v0_ : Value, e = .returned v0_ ∧ (Kd.int .u8).R 5 w' w.heap.size (fun _ => True) v0_ r1 ∧ IsS71 w0 w' g s0_0 r2 r3 r4 ∧ Below w0.heap.size w0 w' ∧ KeepBut w w' g none := by
  unfold num_Reader_Blob.f at h
  have hI0 := hI
  obtain ⟨A1, c1, ev, hb, hc0, hc1, hc2, hfz, hr, hf⟩ := hI.open
  have hg := hI.ge
  by_cases h0 : s0_2 ≠ 0
  · rw [if_pos h0] at h
    simp only [Option.some.injEq, Prod.mk.injEq] at h
    obtain ⟨rfl, rfl, rfl, rfl⟩ := h
    have d0 : decide (s0_2 = 0) = false := decide_eq_false h0
    go_enter Tryd.func19, Tryd.ntmps19
    go_wp2_with (go_at_call 49; refine (num_Reader_ok.walk g _ _ _ _ w0 _ hI0).mono ?_; rintro e w' ⟨he, rfl⟩; rw [d0] at he; subst he)
    go_ret
    exact ⟨_, rfl, Kd.R_nil _ _ _ _ _, hI0, hB, KeepBut.refl _ _ _⟩
  rw [if_neg h0] at h
  by_cases hb0 : 0 ≤ s0_1 ∧ s0_1 ≤ (s0_0.length : Int) ∧ (s0_0.length : Int) ≤ 140737488355328
  case neg => rw [if_neg hb0] at h; cases h
  rw [if_pos hb0] at h
  obtain ⟨⟨t1, t2, t3⟩, ht, hh⟩ := Option.bind_eq_some_iff.mp h
  clear h
  have h := hh
  clear hh
  dsimp only at h
  obtain ⟨hb1, hb2, hb3⟩ := hb0
  have h0 : s0_2 = 0 := by simpa using h0
  have d0 : decide (s0_2 = 0) = true := decide_eq_true h0
  obtain ⟨_, hcc, hC⟩ := Kd.R_reads' hr
  have hmid := Kd.C_drop (m := s0_1.toNat) hC (by omega) hcc
  have hmid : (Kd.int .u8).C w (if c1 = s0_1.toNat then A1 else A1.map (fun x => x.add s0_1.toNat)) (s0_0.drop s0_1.toNat).length (s0_0.drop s0_1.toNat) := by simpa [Kd.int, Kd.scalar] using hmid
  have hst : s0_0.length - s0_1.toNat = (s0_0.drop s0_1.toNat).length := by rw [List.length_drop]
  have hle : (s0_0.drop s0_1.toNat).length ≤ c1 - s0_1.toNat := by omega
  have hl5 : s0_1 ≤ (c1 : Int) := by omega
  have hKC : (Kd.int .u8).C w.drew (if c1 = s0_1.toNat then A1 else A1.map (fun x => x.add s0_1.toNat)) (s0_0.drop s0_1.toNat).length (s0_0.drop s0_1.toNat) := Kd.C_below hmid (below_drew1 (Below.refl _ _))
  have hLK := fun (A0 : Option Addr) (c0 : Nat) (W : World) h1 h2 => num_short.calls k A0 c0 (s0_0.drop s0_1.toNat) t1 t2 t3 W h1 h2 ht
  generalize hL : s0_0.drop s0_1.toNat = l1 at *
  clear hmid hL ht hC hr hf hb
  have hw : wrap64 ((s0_0.length : Int) - s0_1) = (s0_0.length : Int) - s0_1 := by unfold wrap64; omega
  have hnx : ∀ x, x ≠ 0 → num_Reader_Fail.next s0_2 s0_1 s0_3 x = (x, s0_1) := fun x hx => if_pos ⟨h0, hx⟩
  by_cases h3 : t3 ≠ 0
  · rw [if_pos h3] at h
    have h3 : ¬ t3 = 0 := h3
    simp only [Option.some.injEq, Prod.mk.injEq] at h
    obtain ⟨rfl, e2, e3, e4⟩ := h
    subst e2 e3 e4
    have hF := fun W h1 h2 => num_Reader_Fail.walk g s0_0 s0_1 s0_2 s0_3 t3 w0 W h1 h2
    rw [hnx _ (h3)] at hF
    by_cases hcs : c1 = s0_1.toNat
    case' pos => rw [if_pos hcs] at hKC; subst hcs
    case' neg => rw [if_neg hcs] at hKC
    all_goals
      go_enter Tryd.func19, Tryd.ntmps19
      go_wp2_with (go_at_call 49; refine (num_Reader_ok.walk g _ _ _ _ w0 _ hI0).mono ?_; rintro e w' ⟨he, rfl⟩; rw [d0] at he; subst he)
      go_region_with (go_at_call 50; refine (hLK _ _ _ hKC (by omega)).mono ?_; rintro e w2 ⟨rfl, ⟨m, rfl⟩⟩)
      all_goals
        go_wp2_with ((go_at_call 17; refine (hF _ (by repeat (first | exact hI0 | apply IsS71.drewN | apply IsS71.drew)) (by repeat (first | exact hB | apply pw_below_drewN | apply below_drew1))).mono ?_; rintro e w5 ⟨rfl, hI5, hB5, hK5⟩))
        go_ret
        exact ⟨_, rfl, Kd.R_nil _ _ _ _ _, hI5, hB5, KeepBut.trans (by repeat (first | exact KeepBut.refl _ _ _ | apply keep_drewN | apply keep_drew)) hK5 (.inl rfl)⟩
  rw [if_neg h3] at h
  have h3 : t3 = 0 := by simpa using h3
  subst h3
  by_cases hb4 : 0 ≤ t2 ∧ s0_1 + t2 ≤ (s0_0.length : Int) ∧ 0 ≤ t1 ∧ t1 < 18446744073709551616
  case neg => rw [if_neg hb4] at h; cases h
  rw [if_pos hb4] at h
  obtain ⟨hb5, hb6, hb7, hb8⟩ := hb4
  by_cases h4 : a1 < 0
  · rw [if_pos (.inl h4)] at h
    simp only [Option.some.injEq, Prod.mk.injEq] at h
    obtain ⟨rfl, e2, rfl, e4⟩ := h
    subst e2 e4
    have d4 : decide (a1 < 0) = true := decide_eq_true h4
    have hF := fun W h1 h2 => num_Reader_Fail.walk g s0_0 s0_1 s0_2 s0_3 12 w0 W h1 h2
    rw [hnx _ (by decide)] at hF
    by_cases hcs : c1 = s0_1.toNat
    case' pos => rw [if_pos hcs] at hKC; subst hcs
    case' neg => rw [if_neg hcs] at hKC
    all_goals
      go_enter Tryd.func19, Tryd.ntmps19
      go_wp2_with (go_at_call 49; refine (num_Reader_ok.walk g _ _ _ _ w0 _ hI0).mono ?_; rintro e w' ⟨he, rfl⟩; rw [d0] at he; subst he)
      go_region_with (go_at_call 50; refine (hLK _ _ _ hKC (by omega)).mono ?_; rintro e w2 ⟨rfl, ⟨m, rfl⟩⟩)
      all_goals
        go_wp2_with ((go_at_call 17; refine (hF _ (by repeat (first | exact hI0 | apply IsS71.drewN | apply IsS71.drew)) (by repeat (first | exact hB | apply pw_below_drewN | apply below_drew1))).mono ?_; rintro e w5 ⟨rfl, hI5, hB5, hK5⟩))
        go_ret
        exact ⟨_, rfl, Kd.R_nil _ _ _ _ _, hI5, hB5, KeepBut.trans (by repeat (first | exact KeepBut.refl _ _ _ | apply keep_drewN | apply keep_drew)) hK5 (.inl rfl)⟩
  have d4 : decide (a1 < 0) = false := decide_eq_false h4
  by_cases h6 : IntKind.u64.wrap a1 < t1
  · rw [if_pos (.inr h6)] at h
    simp only [Option.some.injEq, Prod.mk.injEq] at h
    obtain ⟨rfl, e2, rfl, e4⟩ := h
    subst e2 e4
    have d6 : decide (IntKind.u64.wrap a1 < t1) = true := decide_eq_true h6
    have hF := fun W h1 h2 => num_Reader_Fail.walk g s0_0 s0_1 s0_2 s0_3 12 w0 W h1 h2
    rw [hnx _ (by decide)] at hF
    by_cases hcs : c1 = s0_1.toNat
    case' pos => rw [if_pos hcs] at hKC; subst hcs
    case' neg => rw [if_neg hcs] at hKC
    all_goals
      go_enter Tryd.func19, Tryd.ntmps19
      go_wp2_with (go_at_call 49; refine (num_Reader_ok.walk g _ _ _ _ w0 _ hI0).mono ?_; rintro e w' ⟨he, rfl⟩; rw [d0] at he; subst he)
      go_region_with (go_at_call 50; refine (hLK _ _ _ hKC (by omega)).mono ?_; rintro e w2 ⟨rfl, ⟨m, rfl⟩⟩)
      all_goals
        go_wp2_with ((go_at_call 17; refine (hF _ (by repeat (first | exact hI0 | apply IsS71.drewN | apply IsS71.drew)) (by repeat (first | exact hB | apply pw_below_drewN | apply below_drew1))).mono ?_; rintro e w5 ⟨rfl, hI5, hB5, hK5⟩))
        go_ret
        exact ⟨_, rfl, Kd.R_nil _ _ _ _ _, hI5, hB5, KeepBut.trans (by repeat (first | exact KeepBut.refl _ _ _ | apply keep_drewN | apply keep_drew)) hK5 (.inl rfl)⟩
  rw [if_neg (by rintro (h | h); exact h4 h; exact h6 h)] at h
  have hu1 : wrap64 ((s0_0.length : Int) - s0_1 - t2) = (s0_0.length : Int) - s0_1 - t2 := by unfold wrap64; omega
  have hu2 : IntKind.u64.wrap ((s0_0.length : Int) - s0_1 - t2) = (s0_0.length : Int) - s0_1 - t2 := by simp [IntKind.wrap, IntKind.bits, IntKind.signed]; omega
  have d6 : decide (IntKind.u64.wrap a1 < t1) = false := decide_eq_false h6
  by_cases h7 : (s0_0.length : Int) - s0_1 - t2 < t1
  · rw [if_pos h7] at h
    simp only [Option.some.injEq, Prod.mk.injEq] at h
    obtain ⟨rfl, e2, rfl, e4⟩ := h
    subst e2 e4
    have d7 : decide ((s0_0.length : Int) - s0_1 - t2 < t1) = true := decide_eq_true h7
    have hF := fun W h1 h2 => num_Reader_Fail.walk g s0_0 s0_1 s0_2 s0_3 2 w0 W h1 h2
    rw [hnx _ (by decide)] at hF
    by_cases hcs : c1 = s0_1.toNat
    case' pos => rw [if_pos hcs] at hKC; subst hcs
    case' neg => rw [if_neg hcs] at hKC
    all_goals
      go_enter Tryd.func19, Tryd.ntmps19
      go_wp2_with (go_at_call 49; refine (num_Reader_ok.walk g _ _ _ _ w0 _ hI0).mono ?_; rintro e w' ⟨he, rfl⟩; rw [d0] at he; subst he)
      go_region_with (go_at_call 50; refine (hLK _ _ _ hKC (by omega)).mono ?_; rintro e w2 ⟨rfl, ⟨m, rfl⟩⟩)
      all_goals
        go_wp2_with (first | (go_at_call 21; refine (num_Reader_Left.walk g _ _ _ _ w0 _ (by repeat (first | exact hI0 | apply IsS71.drewN | apply IsS71.drew))).mono ?_; rintro e w4 ⟨rfl, ⟨m4, rfl⟩⟩; rw [hw]) | (go_at_call 17; refine (hF _ (by repeat (first | exact hI0 | apply IsS71.drewN | apply IsS71.drew)) (by repeat (first | exact hB | apply pw_below_drewN | apply below_drew1))).mono ?_; rintro e w5 ⟨rfl, hI5, hB5, hK5⟩))
        go_ret
        exact ⟨_, rfl, Kd.R_nil _ _ _ _ _, hI5, hB5, KeepBut.trans (by repeat (first | exact KeepBut.refl _ _ _ | apply keep_drewN | apply keep_drew)) hK5 (.inl rfl)⟩
  rw [if_neg h7] at h
  have d7 : decide ((s0_0.length : Int) - s0_1 - t2 < t1) = false := decide_eq_false h7
  have hw1 : wrap64 (s0_1 + t2) = s0_1 + t2 := by unfold wrap64; omega
  have hw2 : wrap64 t1 = t1 := by unfold wrap64; omega
  have hw3 : IntKind.i64.wrap t1 = t1 := (IntKind.wrap_i64 _).trans (by omega)
  subst h0
  have hT := fun W h1 h2 => num_Reader_Take.calls g s0_0 (s0_1 + t2) 0 s0_3 t1 r1 r2 r3 r4 w0 W h1 h2 h
  by_cases hcs : c1 = s0_1.toNat
  case' pos => rw [if_pos hcs] at hKC; subst hcs
  case' neg => rw [if_neg hcs] at hKC
  all_goals
    go_enter Tryd.func19, Tryd.ntmps19
    go_wp2_with (go_at_call 49; refine (num_Reader_ok.walk g _ _ _ _ w0 _ hI0).mono ?_; rintro e w' ⟨he, rfl⟩; rw [d0] at he; subst he)
    go_region_with (go_at_call 50; refine (hLK _ _ _ hKC (by omega)).mono ?_; rintro e w2 ⟨rfl, ⟨m, rfl⟩⟩)
    all_goals
      go_wp2_with (first | (go_at_call 21; refine (num_Reader_Left.walk g _ _ _ _ w0 _ (by repeat (first | exact hI0 | apply IsS71.drewN | apply IsS71.drew))).mono ?_; rintro e w4 ⟨rfl, ⟨m4, rfl⟩⟩; rw [hw]) | (go_at_call 14; refine (hT _ (IsS71.set_1 (by repeat (first | exact hI0 | apply IsS71.drewN | apply IsS71.drew)) _) (Below.setCell (p := ⟨g, 1, none⟩) (by repeat (first | exact hB | apply pw_below_drewN | apply below_drew1)) hg _)).mono ?_; rintro e w5 ⟨v5, rfl, hR5, hI5, hB5, hK5⟩))
      go_ret
      exact ⟨_, rfl, Kd.R_lower hR5 (by simp), hI5, hB5, KeepBut.trans (KeepBut.set_ (by repeat (first | exact KeepBut.refl _ _ _ | apply keep_drewN | apply keep_drew)) _ _) hK5 (.inl rfl)⟩

/-! ### estreatref01_Same: function 25 -/
def estreatref01_Same.l0 : Nat → List Int → List Int → Int → Option (Bool)
  | 0, _, _, _ => none
  | k + 1, x0, x1, x5 => if x5 < (x0.length : Int) then (if 0 ≤ x5 then (if x5 < (x1.length : Int) then (if (rd x0 x5) = (rd x1 x5) then (estreatref01_Same.l0 k x0 x1 (wrap64 (x5 + 1))) else (some false)) else (none)) else (none)) else (some true)
def estreatref01_Same.f (k : Nat) (l0 : List Int) (l1 : List Int) : Option (Bool) := if (l0.length : Int) = (l1.length : Int) then (estreatref01_Same.l0 k l0 l1 0) else (some false)
theorem estreatref01_Same.mono_l : ∀ k, (∀ y0 y1 y2, LeO (estreatref01_Same.l0 k y0 y1 y2) (estreatref01_Same.l0 (k + 1) y0 y1 y2))
  | 0 => fun _ _ _ r h => by simp [estreatref01_Same.l0] at h
  | k + 1 => by
    have ih0 := estreatref01_Same.mono_l k
    · intro y0 y1 y2
      unfold estreatref01_Same.l0
      repeat' first
      | (with_reducible exact ih0 _ _ _)
      | (with_reducible exact LeO.refl _)
      | (with_reducible exact LeO.none _)
      | (with_reducible refine LeO.ite ?_ ?_)
      | (with_reducible refine LeO.bind ?_ (fun _ => ?_))
      | exact ih0 _ _ _
      | exact LeO.none _
      | refine LeO.ite ?_ ?_
      | refine LeO.bind ?_ (fun _ => ?_)
theorem estreatref01_Same.mono : ∀ a0 a1 k, LeO (estreatref01_Same.f k a0 a1) (estreatref01_Same.f (k + 1) a0 a1) := by
  intro a0 a1 k
  have ih0 := estreatref01_Same.mono_l k
  unfold estreatref01_Same.f
  repeat' first
      | (with_reducible exact ih0 _ _ _)
      | (with_reducible exact LeO.refl _)
      | (with_reducible exact LeO.none _)
      | (with_reducible refine LeO.ite ?_ ?_)
      | (with_reducible refine LeO.bind ?_ (fun _ => ?_))
      | exact ih0 _ _ _
      | exact LeO.none _
      | refine LeO.ite ?_ ?_
      | refine LeO.bind ?_ (fun _ => ?_)
set_option maxHeartbeats 8000000 in
set_option maxRecDepth 100000 in
theorem estreatref01_Same.calls (k : Nat) (A0 : Option Addr) (c0 : Nat) (l0 : List Int) (A1 : Option Addr) (c1 : Nat) (l1 : List Int) (r : Bool) (w : World) (hr0 : Kd.C (Kd.int .u8) w A0 l0.length l0) (hc0 : l0.length ≤ c0) (hr1 : Kd.C (Kd.int .u8) w A1 l1.length l1) (hc1 : l1.length ≤ c1) (h : estreatref01_Same.f k l0 l1 = some r) :
    Calls Tryd.prog 25 #[.slice A0 l0.length c0, .slice A1 l1.length c1] w fun e w' => e = .returned (.bool r) ∧ Drawn0 w w' := by
  have HR0 := Aside0.mk hr0
  have HC0 := Aside0.mk hc0
  clear hr0 hc0
  have HR1 := Aside0.mk hr1
  have HC1 := Aside0.mk hc1
  clear hr1 hc1
  have H : (if (l0.length : Int) = (l1.length : Int) then (estreatref01_Same.l0 k l0 l1 0) else (some false)) = some r := h
  clear h
  by_cases c3 : (l0.length : Int) = (l1.length : Int)
  · rw [if_pos c3] at H
    have c3b0 : ((l0.length : Int) == (l1.length : Int)) = true := beq_iff_eq.mpr c3
    have c3b1 : ((l0.length : Int) != (l1.length : Int)) = false := bne_eq_false_iff_eq.mpr c3
    have c3b2 : (l0.length == l1.length) = true := by first | simpa using c3 | (simp at c3 ⊢; omega)
    clear c3
    have H' := Aside0.mk H
    clear H
    go_enter Tryd.func25, Tryd.ntmps25
    go_wp2
    repeat (go_quiet (fail); try go_wp2)
    go_loopg [5] k (fun kq v5 w' => ∃ (x5_1 : Int), v5 = .int .i64 x5_1 ∧ Aside0 (estreatref01_Same.l0 kq l0 l1 x5_1 = some r) ∧ Aside0 (kq ≤ k) ∧ Drawn0 w w')
    case atStart => exact ⟨(0), (by first | rfl | (simp; done) | (simp [*]; done)), H', ⟨Nat.le_refl _⟩, by repeat (first | exact Drawn0.refl _ | apply Drawn0.step)⟩
    case round =>
      clear H'
      try clear c1
      try clear c2
      try clear p2
      try clear c3
      try clear c3b0
      try clear c3b1
      try clear c3b2
      obtain ⟨x5_1, rfl, HA, HK1, ⟨m1, rfl⟩⟩ := hrel
      cases gk with
      | zero => exact absurd HA.out (by simp [estreatref01_Same.l0])
      | succ k1 =>
        have H := HA.out
        clear HA
        simp only [estreatref01_Same.l0] at H
        by_cases c4 : x5_1 < (l0.length : Int)
        · rw [if_pos c4] at H
          have c4b0 : decide (x5_1 < (l0.length : Int)) = true := decide_eq_true c4
          clear c4
          by_cases c5 : 0 ≤ x5_1
          · rw [if_pos c5] at H
            have c5b0 : decide (0 ≤ x5_1) = true := decide_eq_true c5
            clear c5
            by_cases c6 : x5_1 < (l1.length : Int)
            · rw [if_pos c6] at H
              have c6b0 : decide (x5_1 < (l1.length : Int)) = true := decide_eq_true c6
              clear c6
              by_cases c7 : (rd l0 x5_1) = (rd l1 x5_1)
              · rw [if_pos c7] at H
                have c7b0 : ((rd l0 x5_1) == (rd l1 x5_1)) = true := beq_iff_eq.mpr c7
                have c7b1 : ((rd l0 x5_1) != (rd l1 x5_1)) = false := bne_eq_false_iff_eq.mpr c7
                clear c7
                have H' := Aside0.mk H
                clear H
                have p157 : 0 ≤ (x5_1 : Int) := of_decide_eq_true (by first | (with_reducible assumption) | assumption)
                have q157 : x5_1 < (l0.length : Int) := of_decide_eq_true (by first | (with_reducible assumption) | assumption)
                obtain ⟨ad157, e157, hx157_0⟩ := Kd.at_int HR0.out x5_1 p157 q157
                cases e157
                replace p157 := eq_true p157
                replace q157 := eq_true q157
                have p158 : 0 ≤ (x5_1 : Int) := of_decide_eq_true (by first | (with_reducible assumption) | assumption)
                have q158 : x5_1 < (l1.length : Int) := of_decide_eq_true (by first | (with_reducible assumption) | assumption)
                obtain ⟨ad158, e158, hx158_0⟩ := Kd.at_int HR1.out x5_1 p158 q158
                cases e158
                replace p158 := eq_true p158
                replace q158 := eq_true q158
                go_wp2
                repeat (go_quiet (fail); try go_wp2)
                go_roundg k1
                case measure => have := HK1.out; omega
                case rel => exact ⟨(wrap64 (x5_1 + 1)), (by first | rfl | (simp; done) | (simp [*]; done)), H', ⟨by have := HK1.out; omega⟩, by repeat (first | exact Drawn0.refl _ | apply Drawn0.step)⟩
              · rw [if_neg c7] at H
                have c7b0 : ((rd l0 x5_1) == (rd l1 x5_1)) = false := beq_eq_false_iff_ne.mpr c7
                have c7b1 : ((rd l0 x5_1) != (rd l1 x5_1)) = true := bne_iff_ne.mpr c7
                obtain rfl := Option.some.inj H
                have p157 : 0 ≤ (x5_1 : Int) := of_decide_eq_true (by first | (with_reducible assumption) | assumption)
                have q157 : x5_1 < (l0.length : Int) := of_decide_eq_true (by first | (with_reducible assumption) | assumption)
                obtain ⟨ad157, e157, hx157_0⟩ := Kd.at_int HR0.out x5_1 p157 q157
                cases e157
                replace p157 := eq_true p157
                replace q157 := eq_true q157
                have p158 : 0 ≤ (x5_1 : Int) := of_decide_eq_true (by first | (with_reducible assumption) | assumption)
                have q158 : x5_1 < (l1.length : Int) := of_decide_eq_true (by first | (with_reducible assumption) | assumption)
                obtain ⟨ad158, e158, hx158_0⟩ := Kd.at_int HR1.out x5_1 p158 q158
                cases e158
                replace p158 := eq_true p158
                replace q158 := eq_true q158
                go_wp2
                repeat (go_quiet (fail); try go_wp2)
                go_ret
                exact ⟨by first | rfl | (simp; done) | (simp [*]; done), by repeat (first | exact Drawn0.refl _ | apply Drawn0.step)⟩
            · rw [if_neg c6] at H
              exact absurd H (by simp)
          · rw [if_neg c5] at H
            exact absurd H (by simp)
        · rw [if_neg c4] at H
          have c4b0 : decide (x5_1 < (l0.length : Int)) = false := decide_eq_false c4
          clear c4
          obtain rfl := Option.some.inj H
          go_wp2
          repeat (go_quiet (fail); try go_wp2)
          go_ret
          exact ⟨by first | rfl | (simp; done) | (simp [*]; done), by repeat (first | exact Drawn0.refl _ | apply Drawn0.step)⟩
  · rw [if_neg c3] at H
    have c3b0 : ((l0.length : Int) == (l1.length : Int)) = false := beq_eq_false_iff_ne.mpr c3
    have c3b1 : ((l0.length : Int) != (l1.length : Int)) = true := bne_iff_ne.mpr c3
    have c3b2 : (l0.length == l1.length) = false := by first | simpa using c3 | (simp at c3 ⊢; omega)
    obtain rfl := Option.some.inj H
    go_enter Tryd.func25, Tryd.ntmps25
    go_wp2
    repeat (go_quiet (fail); try go_wp2)
    go_ret
    exact ⟨by first | rfl | (simp; done) | (simp [*]; done), by repeat (first | exact Drawn0.refl _ | apply Drawn0.step)⟩

/-! ### num_Zig: function 27 -/
def num_Zig.f (a0 : Int) : Option (Int) := some (Go.bits .xor .u64 (IntKind.u64.wrap ((IntKind.u64.wrap (a0)) * 2)) (IntKind.u64.wrap (a0 / 9223372036854775808)))
set_option maxHeartbeats 8000000 in
set_option maxRecDepth 100000 in
theorem num_Zig.calls (a0 : Int) (r : Int) (w : World) (h : num_Zig.f a0 = some r) :
    Calls Tryd.prog 27 #[.int .i64 a0] w fun e w' => e = .returned (.int .u64 r) ∧ Drawn0 w w' := by
  have H : (some (Go.bits .xor .u64 (IntKind.u64.wrap ((IntKind.u64.wrap (a0)) * 2)) (IntKind.u64.wrap (a0 / 9223372036854775808)))) = some r := h
  clear h
  obtain rfl := Option.some.inj H
  go_enter Tryd.func27, Tryd.ntmps27
  go_wp2
  go_ret
  exact ⟨by first | rfl | (simp; done) | (simp [*]; done), by repeat (first | exact Drawn0.refl _ | apply Drawn0.step)⟩

/-! ### estreatlaw01_awake: function 22 -/
def estreatlaw01_awake.f (k : Nat)  : Option (Bool) := (num_PutVar.f k ([] : List Int) 300).bind fun t159 => ((estreatref01_Same.f k t159 (([172, 2] : List Int))).bind fun t165 => (if t165 = true then ((num_Zig.f (-1)).bind fun t166 => (some (t166 == 1))) else (some false)))
theorem estreatlaw01_awake.mono : ∀ k, LeO (estreatlaw01_awake.f k ) (estreatlaw01_awake.f (k + 1) ) := by
  intro  k
  unfold estreatlaw01_awake.f
  repeat' first
      | (with_reducible exact estreatref01_Same.mono _ _ _)
      | (with_reducible exact num_PutVar.mono _ _ _)
      | (with_reducible exact LeO.refl _)
      | (with_reducible exact LeO.none _)
      | (with_reducible refine LeO.ite ?_ ?_)
      | (with_reducible refine LeO.bind ?_ (fun _ => ?_))
      | exact estreatref01_Same.mono _ _ _
      | exact num_PutVar.mono _ _ _
      | exact LeO.none _
      | refine LeO.ite ?_ ?_
      | refine LeO.bind ?_ (fun _ => ?_)
set_option maxHeartbeats 8000000 in
set_option maxRecDepth 100000 in
theorem estreatlaw01_awake.calls (k : Nat)  (r : Bool) (w : World) (h : estreatlaw01_awake.f k  = some r) :
    Calls Tryd.prog 22 #[] w fun e w' => e = .returned (.bool r) ∧ Below w.heap.size w w' := by
  have HB := Aside0.mk (Below.refl w.heap.size w)
  have H : ((num_PutVar.f k ([] : List Int) 300).bind fun t159 => ((estreatref01_Same.f k t159 (([172, 2] : List Int))).bind fun t165 => (if t165 = true then ((num_Zig.f (-1)).bind fun t166 => (some (t166 == 1))) else (some false)))) = some r := h
  clear h
  replace H := Option.bind_eq_some_iff.mp H
  obtain ⟨t159, A10, H⟩ := H
  replace H : ((estreatref01_Same.f k t159 (([172, 2] : List Int))).bind fun t165 => (if t165 = true then ((num_Zig.f (-1)).bind fun t166 => (some (t166 == 1))) else (some false))) = some r := H
  have A1 := Aside0.mk A10
  clear A10
  obtain ⟨y162, hy162⟩ : ∃ y_ : List Int, y_ = (([172, 2] : List Int)) := ⟨_, rfl⟩
  replace H : ((estreatref01_Same.f k t159 y162).bind fun t165 => (if t165 = true then ((num_Zig.f (-1)).bind fun t166 => (some (t166 == 1))) else (some false))) = some r := by first | (rw [hy162]; with_reducible exact H) | (have H2_ := (Option.bind_some _ _).symm.trans H; rw [hy162]; with_reducible exact H2_) | (have H2_ := (Option.bind_some _ _).symm.trans H; with_reducible exact H2_) | with_reducible exact H | (rw [hy162]; exact H) | exact H
  have Ny162 := Aside0.mk hy162
  clear hy162
  replace H := Option.bind_eq_some_iff.mp H
  obtain ⟨t165, A20, H⟩ := H
  replace H : (if t165 = true then ((num_Zig.f (-1)).bind fun t166 => (some (t166 == 1))) else (some false)) = some r := H
  have A2 := Aside0.mk A20
  clear A20
  by_cases c3 : t165 = true
  · subst c3
    have H1 : ((num_Zig.f (-1)).bind fun t166 => (some (t166 == 1))) = some r := by rw [if_pos rfl] at H; exact H
    clear H
    have H := H1
    clear H1
    replace H := Option.bind_eq_some_iff.mp H
    obtain ⟨t166, A40, H⟩ := H
    replace H : (some (t166 == 1)) = some r := H
    have A4 := Aside0.mk A40
    clear A40
    obtain rfl := Option.some.inj H
    go_enter Tryd.func22, Tryd.ntmps22
    go_wp2_with (first | ((with_reducible refine gate_callee (f := 11) rfl ?_); refine goesL_ (some 1) rfl rfl Tryd.func11 (by kernel_rfl) rfl #[.slice none 0 0, .int .u64 300] rfl (by (try simp only [List.map_toArray, List.map_cons, List.map_nil]); first | done | rfl | (simp only [List.length_drop, List.length_take]; rfl)) ?_; (refine (num_PutVar.calls k (fun k_ => some k_ = (.slice none 0 0 : Value).ownBlock) (.slice none 0 0) ([] : List Int) 300 t159 w _ ?side1 ?side2 A1.out).mono ?_); (case side1 => repeat (first | (with_reducible first | exact HB.out | apply below_alloc | apply pw_below_drewN | apply below_drew1) | exact HB.out)); (case side2 => exact Kd.R_nil _ _ _ _ _); rintro e w5 ⟨v160, rfl, ho0, hb, hkp⟩; refine ⟨_, rfl, ?_⟩; have n0_ := Aside0.mk (Kd.R_mono (ok' := fun k_ => True) ho0 (fun k_ hk_ => trivial)); have n1_ := Aside0.mk (hb); clear HB; have HO161 := n0_; have HB := n1_; clear n0_ n1_; (try clear hb); (try clear hkp); (try clear ho0)) | ((with_reducible refine gate_dst (N := 2) rfl ?_); refine Kd.R_lit (Kd.int .u8) _ 5 ?hg (N := 2) ?hd (xs := ([172, 2] : List Int)) (inner := [.int .u8 172, .int .u8 2]) (ok := fun _ => True) (okp := fun _ => True) ?hr ?hp (fun _ hk => hk) trivial (Below.refl _ _) (Nat.le_refl _) (by simp) ?_; (case hd => rfl); (case hg => rfl); (case hr => first | (go_simp; done) | (go_simp; rfl)); (case hp => exact (Reps.one (show Kd.M (Kd.int .u8) _ _ _ 172 [.int .u8 172] from rfl) (Reps.one (show Kd.M (Kd.int .u8) _ _ _ 2 [.int .u8 2] from rfl) (Reps.none _ _)))); intro v163 w6 ho7 hb hg_ hnew_; clear hg_ hnew_; (first | rw [← Ny162.out] at ho7 | (simp only [Int.reduceToNat] at ho7; rw [← Ny162.out] at ho7)); have n0_ := Aside0.mk (Kd.R_elder' (by (with_reducible repeat (first | apply Kd.R_alloc | apply Kd.R_drewN | apply Kd.R_drew)); exact HO161.out) (Kd.R_base ho7) hb); have n1_ := Aside0.mk (Kd.R_lower (Kd.R_new' ho7 (Kd.R_lt (by (with_reducible repeat (first | apply Kd.R_alloc | apply Kd.R_drewN | apply Kd.R_drew)); exact HO161.out))) (below_size (by repeat (first | (with_reducible first | exact HB.out | apply below_alloc | apply pw_below_drewN | apply below_drew1) | exact HB.out)))); have n2_ := Aside0.mk (below_step (by repeat (first | (with_reducible first | exact HB.out | apply below_alloc | apply pw_below_drewN | apply below_drew1) | exact HB.out)) hb); clear HO161; clear HB; have HO161 := n0_; have HO164 := n1_; have HB := n2_; clear n0_ n1_ n2_; clear hb ho7; obtain ⟨Ao8, co8, eo8⟩ := Kd.R_slice HO161.out; subst eo8; obtain ⟨Ao9, co9, eo9⟩ := Kd.R_slice HO164.out; subst eo9) | ((with_reducible refine gate_callee (f := 25) rfl ?_); refine goesL_ (some 3) rfl rfl Tryd.func25 (by kernel_rfl) rfl #[.slice Ao8 t159.length co8, .slice Ao9 y162.length co9] rfl (by (try simp only [List.map_toArray, List.map_cons, List.map_nil]); first | done | rfl | (simp only [List.length_drop, List.length_take]; rfl)) ?_; (with_reducible refine (estreatref01_Same.calls k _ _ t159 _ _ y162 true _ ?side1 ?side2 ?side3 ?side4 A2.out).mono ?_); (case side1 => repeat (first | exact (Kd.R_reads' HO161.out).2.2 | (with_reducible refine Kd.C_alloc ?_ _) | (with_reducible refine Kd.C_drewN ?_ _) | (with_reducible refine Kd.C_drew ?_))); (case side2 => exact (Kd.R_reads' HO161.out).2.1); (case side3 => repeat (first | exact (Kd.R_reads' HO164.out).2.2 | (with_reducible refine Kd.C_alloc ?_ _) | (with_reducible refine Kd.C_drewN ?_ _) | (with_reducible refine Kd.C_drew ?_))); (case side4 => exact (Kd.R_reads' HO164.out).2.1); rintro e w' ⟨rfl, ⟨nd, rfl⟩⟩; refine ⟨_, rfl, ?_⟩) | (go_at_call 27; (with_reducible refine (num_Zig.calls (-1) t166 _ A4.out).mono ?_); rintro e w' ⟨rfl, ⟨nd, rfl⟩⟩))
    go_ret
    exact ⟨by first | rfl | (simp [errW_none, errW_some] <;> rfl) | (simp [*, errW_none, errW_some] <;> rfl), by repeat (first | (with_reducible first | exact HB.out | apply below_alloc | apply pw_below_drewN | apply below_drew1) | exact HB.out)⟩
  · replace c3 := Bool.eq_false_iff.mpr c3
    subst c3
    have H1 : (some false) = some r := by rw [if_neg (show ¬ (false = true) by decide)] at H; exact H
    clear H
    have H := H1
    clear H1
    obtain rfl := Option.some.inj H
    go_enter Tryd.func22, Tryd.ntmps22
    go_wp2_with (first | ((with_reducible refine gate_callee (f := 11) rfl ?_); refine goesL_ (some 1) rfl rfl Tryd.func11 (by kernel_rfl) rfl #[.slice none 0 0, .int .u64 300] rfl (by (try simp only [List.map_toArray, List.map_cons, List.map_nil]); first | done | rfl | (simp only [List.length_drop, List.length_take]; rfl)) ?_; (refine (num_PutVar.calls k (fun k_ => some k_ = (.slice none 0 0 : Value).ownBlock) (.slice none 0 0) ([] : List Int) 300 t159 w _ ?side1 ?side2 A1.out).mono ?_); (case side1 => repeat (first | (with_reducible first | exact HB.out | apply below_alloc | apply pw_below_drewN | apply below_drew1) | exact HB.out)); (case side2 => exact Kd.R_nil _ _ _ _ _); rintro e w10 ⟨v160, rfl, ho0, hb, hkp⟩; refine ⟨_, rfl, ?_⟩; have n0_ := Aside0.mk (Kd.R_mono (ok' := fun k_ => True) ho0 (fun k_ hk_ => trivial)); have n1_ := Aside0.mk (hb); clear HB; have HO161 := n0_; have HB := n1_; clear n0_ n1_; (try clear hb); (try clear hkp); (try clear ho0)) | ((with_reducible refine gate_dst (N := 2) rfl ?_); refine Kd.R_lit (Kd.int .u8) _ 5 ?hg (N := 2) ?hd (xs := ([172, 2] : List Int)) (inner := [.int .u8 172, .int .u8 2]) (ok := fun _ => True) (okp := fun _ => True) ?hr ?hp (fun _ hk => hk) trivial (Below.refl _ _) (Nat.le_refl _) (by simp) ?_; (case hd => rfl); (case hg => rfl); (case hr => first | (go_simp; done) | (go_simp; rfl)); (case hp => exact (Reps.one (show Kd.M (Kd.int .u8) _ _ _ 172 [.int .u8 172] from rfl) (Reps.one (show Kd.M (Kd.int .u8) _ _ _ 2 [.int .u8 2] from rfl) (Reps.none _ _)))); intro v163 w11 ho12 hb hg_ hnew_; clear hg_ hnew_; (first | rw [← Ny162.out] at ho12 | (simp only [Int.reduceToNat] at ho12; rw [← Ny162.out] at ho12)); have n0_ := Aside0.mk (Kd.R_elder' (by (with_reducible repeat (first | apply Kd.R_alloc | apply Kd.R_drewN | apply Kd.R_drew)); exact HO161.out) (Kd.R_base ho12) hb); have n1_ := Aside0.mk (Kd.R_lower (Kd.R_new' ho12 (Kd.R_lt (by (with_reducible repeat (first | apply Kd.R_alloc | apply Kd.R_drewN | apply Kd.R_drew)); exact HO161.out))) (below_size (by repeat (first | (with_reducible first | exact HB.out | apply below_alloc | apply pw_below_drewN | apply below_drew1) | exact HB.out)))); have n2_ := Aside0.mk (below_step (by repeat (first | (with_reducible first | exact HB.out | apply below_alloc | apply pw_below_drewN | apply below_drew1) | exact HB.out)) hb); clear HO161; clear HB; have HO161 := n0_; have HO164 := n1_; have HB := n2_; clear n0_ n1_ n2_; clear hb ho12; obtain ⟨Ao13, co13, eo13⟩ := Kd.R_slice HO161.out; subst eo13; obtain ⟨Ao14, co14, eo14⟩ := Kd.R_slice HO164.out; subst eo14) | ((with_reducible refine gate_callee (f := 25) rfl ?_); refine goesL_ (some 3) rfl rfl Tryd.func25 (by kernel_rfl) rfl #[.slice Ao13 t159.length co13, .slice Ao14 y162.length co14] rfl (by (try simp only [List.map_toArray, List.map_cons, List.map_nil]); first | done | rfl | (simp only [List.length_drop, List.length_take]; rfl)) ?_; (with_reducible refine (estreatref01_Same.calls k _ _ t159 _ _ y162 false _ ?side1 ?side2 ?side3 ?side4 A2.out).mono ?_); (case side1 => repeat (first | exact (Kd.R_reads' HO161.out).2.2 | (with_reducible refine Kd.C_alloc ?_ _) | (with_reducible refine Kd.C_drewN ?_ _) | (with_reducible refine Kd.C_drew ?_))); (case side2 => exact (Kd.R_reads' HO161.out).2.1); (case side3 => repeat (first | exact (Kd.R_reads' HO164.out).2.2 | (with_reducible refine Kd.C_alloc ?_ _) | (with_reducible refine Kd.C_drewN ?_ _) | (with_reducible refine Kd.C_drew ?_))); (case side4 => exact (Kd.R_reads' HO164.out).2.1); rintro e w' ⟨rfl, ⟨nd, rfl⟩⟩; refine ⟨_, rfl, ?_⟩))
    go_ret
    exact ⟨by first | rfl | (simp [errW_none, errW_some] <;> rfl) | (simp [*, errW_none, errW_some] <;> rfl), by repeat (first | (with_reducible first | exact HB.out | apply below_alloc | apply pw_below_drewN | apply below_drew1) | exact HB.out)⟩

end Go.Proofs.YtjmhfbgpebgcmaaDoor.PNumBack
